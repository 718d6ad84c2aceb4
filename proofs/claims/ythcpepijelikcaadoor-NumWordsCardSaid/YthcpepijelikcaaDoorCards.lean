/-
  DERIVED. GIVEN WITH THE SEED: THE CARDS: each row of YthcpepijelikcaaDoorRows.lean that lists a variable, with what it lists TIED to the program's text (the seventh form; the later family's looks); each row that meets fmt, with fmt's text TOLD by the authors' own Lean function (tested against real Go, not proved from fmt's source: count such statements apart). THE CARD IS WHAT COUNTS. Prove the row's statement (the work); the ties are given (YthcpepijelikcaaDoorTie.lean); close each card by the builder's one call (the guide's Derived/Test/ToyasCard.lean, 'card_holds'). Laid BY PROGRAM, IN A SANDBOX (cutbox-door.mjs). By AI agents, Wed Nov 11 2026. No macro, syntax, notation, axiom, sorry.
-/
import Derived.Test.YthcpepijelikcaaDoorRows
import GoSem.ClaimSeven
namespace Go.Proofs.YthcpepijelikcaaDoor
namespace Rows

/-- THE TIED CARD OF 'butterylaw01.NumOrders'. -/
def numOrdersCard : Claim7 := { stood := { row := numOrdersRow, standIns := [], harness := (true, "3963e550bc9117e6f53e945915aad9fc85f92d278c37905e7a4018200b4929f7"), looks := true }, kinds := [], alts := [], laidByText := true, laidKinds := [.data, .data, .data, .sentinel, .sentinel], laidTests := true, laidLooks := .later }
def NumOrdersCardSaid : Prop := Claim7.holds Tryd.pinned (.plain (OpenSpec.ofChange numOrdersSpec)) numOrdersCard

/-- THE TIED CARD OF 'butterylaw01.NumPieces'. -/
def numPiecesCard : Claim7 := { stood := { row := numPiecesRow, standIns := [], harness := (true, "3963e550bc9117e6f53e945915aad9fc85f92d278c37905e7a4018200b4929f7"), looks := true }, kinds := [], alts := [], laidByText := true, laidKinds := [.data, .data, .data, .sentinel, .sentinel], laidTests := true, laidLooks := .later }
def NumPiecesCardSaid : Prop := Claim7.holds Tryd.pinned (.plain (OpenSpec.ofChange numPiecesSpec)) numPiecesCard

/-- THE TIED CARD OF 'butterylaw01.NumBytes'. -/
def numBytesCard : Claim7 := { stood := { row := numBytesRow, standIns := [], harness := (true, "3963e550bc9117e6f53e945915aad9fc85f92d278c37905e7a4018200b4929f7"), looks := true }, kinds := [], alts := [], laidByText := true, laidKinds := [.data, .data, .data, .sentinel, .sentinel], laidTests := true, laidLooks := .later }
def NumBytesCardSaid : Prop := Claim7.holds Tryd.pinned (.plain (OpenSpec.ofChange numBytesSpec)) numBytesCard

/-- THE TIED CARD OF 'butterylaw01.NumBack'. -/
def numBackCard : Claim7 := { stood := { row := numBackRow, standIns := [], harness := (true, "3963e550bc9117e6f53e945915aad9fc85f92d278c37905e7a4018200b4929f7"), looks := true }, kinds := [], alts := [], laidByText := true, laidKinds := [.data, .data, .data, .sentinel, .sentinel], laidTests := true, laidLooks := .later }
def NumBackCardSaid : Prop := Claim7.holds Tryd.pinned (.plain (OpenSpec.ofChange numBackSpec)) numBackCard

/-- THE TIED CARD OF 'butterylaw01.NumDecimals'. -/
def numDecimalsCard : Claim7 := { stood := { row := numDecimalsRow, standIns := [], harness := (true, "3963e550bc9117e6f53e945915aad9fc85f92d278c37905e7a4018200b4929f7"), looks := true }, kinds := [], alts := [], laidByText := true, laidKinds := [.data, .data, .data, .sentinel, .sentinel], laidTests := true, laidLooks := .later }
def NumDecimalsCardSaid : Prop := Claim7.holds Tryd.pinned (.plain (OpenSpec.ofChange numDecimalsSpec)) numDecimalsCard

/-- THE TIED CARD OF 'butterylaw01.NumNoughts'. -/
def numNoughtsCard : Claim7 := { stood := { row := numNoughtsRow, standIns := [], harness := (true, "3963e550bc9117e6f53e945915aad9fc85f92d278c37905e7a4018200b4929f7"), looks := true }, kinds := [], alts := [], laidByText := true, laidKinds := [.data, .data, .data, .sentinel, .sentinel], laidTests := true, laidLooks := .later }
def NumNoughtsCardSaid : Prop := Claim7.holds Tryd.pinned (.plain (OpenSpec.ofChange numNoughtsSpec)) numNoughtsCard

/-- THE TIED CARD OF 'butterylaw01.NumWords'. -/
def numWordsCard : Claim7 := { stood := { row := numWordsRow, standIns := [], harness := (true, "3963e550bc9117e6f53e945915aad9fc85f92d278c37905e7a4018200b4929f7"), looks := true }, kinds := [], alts := [], laidByText := true, laidKinds := [.data, .data, .data, .data, .sentinel, .sentinel, .pinned], laidTests := true, laidLooks := .later }
def NumWordsCardSaid : Prop := Claim7.holds Tryd.pinned (.plain (OpenSpec.ofChange numWordsSpec)) numWordsCard

/-- THE TIED CARD OF 'butterylaw01.NumJoins'. -/
def numJoinsCard : Claim7 := { stood := { row := numJoinsRow, standIns := [], harness := (true, "3963e550bc9117e6f53e945915aad9fc85f92d278c37905e7a4018200b4929f7"), looks := true }, kinds := [], alts := [], laidByText := true, laidKinds := [.data, .data, .data, .data, .sentinel, .sentinel, .pinned], laidTests := true, laidLooks := .later }
def NumJoinsCardSaid : Prop := Claim7.holds Tryd.pinned (.plain (OpenSpec.ofChange numJoinsSpec)) numJoinsCard

/-- THE SECOND FORM's CARD OF 'butterylaw01.NumOrders'. -/
def numOrdersUptoCard : Claim7 := { stood := { row := numOrdersUptoRow, standIns := [], harness := (true, "3963e550bc9117e6f53e945915aad9fc85f92d278c37905e7a4018200b4929f7"), looks := true }, kinds := [], alts := [], laidByText := true, laidKinds := [.data, .data, .data, .sentinel, .sentinel], laidTests := true, laidLooks := .later }
def NumOrdersUptoCardSaid : Prop := Claim7.holds Tryd.pinned (.plain (OpenSpec.upto numOrdersSpec)) numOrdersUptoCard

/-- THE SECOND FORM's CARD OF 'butterylaw01.NumPieces'. -/
def numPiecesUptoCard : Claim7 := { stood := { row := numPiecesUptoRow, standIns := [], harness := (true, "3963e550bc9117e6f53e945915aad9fc85f92d278c37905e7a4018200b4929f7"), looks := true }, kinds := [], alts := [], laidByText := true, laidKinds := [.data, .data, .data, .sentinel, .sentinel], laidTests := true, laidLooks := .later }
def NumPiecesUptoCardSaid : Prop := Claim7.holds Tryd.pinned (.plain (OpenSpec.upto numPiecesSpec)) numPiecesUptoCard

/-- THE SECOND FORM's CARD OF 'butterylaw01.NumBytes'. -/
def numBytesUptoCard : Claim7 := { stood := { row := numBytesUptoRow, standIns := [], harness := (true, "3963e550bc9117e6f53e945915aad9fc85f92d278c37905e7a4018200b4929f7"), looks := true }, kinds := [], alts := [], laidByText := true, laidKinds := [.data, .data, .data, .sentinel, .sentinel], laidTests := true, laidLooks := .later }
def NumBytesUptoCardSaid : Prop := Claim7.holds Tryd.pinned (.plain (OpenSpec.upto numBytesSpec)) numBytesUptoCard

/-- THE SECOND FORM's CARD OF 'butterylaw01.NumBack'. -/
def numBackUptoCard : Claim7 := { stood := { row := numBackUptoRow, standIns := [], harness := (true, "3963e550bc9117e6f53e945915aad9fc85f92d278c37905e7a4018200b4929f7"), looks := true }, kinds := [], alts := [], laidByText := true, laidKinds := [.data, .data, .data, .sentinel, .sentinel], laidTests := true, laidLooks := .later }
def NumBackUptoCardSaid : Prop := Claim7.holds Tryd.pinned (.plain (OpenSpec.upto numBackSpec)) numBackUptoCard

/-- THE SECOND FORM's CARD OF 'butterylaw01.NumDecimals'. -/
def numDecimalsUptoCard : Claim7 := { stood := { row := numDecimalsUptoRow, standIns := [], harness := (true, "3963e550bc9117e6f53e945915aad9fc85f92d278c37905e7a4018200b4929f7"), looks := true }, kinds := [], alts := [], laidByText := true, laidKinds := [.data, .data, .data, .sentinel, .sentinel], laidTests := true, laidLooks := .later }
def NumDecimalsUptoCardSaid : Prop := Claim7.holds Tryd.pinned (.plain (OpenSpec.upto numDecimalsSpec)) numDecimalsUptoCard

/-- THE SECOND FORM's CARD OF 'butterylaw01.NumNoughts'. -/
def numNoughtsUptoCard : Claim7 := { stood := { row := numNoughtsUptoRow, standIns := [], harness := (true, "3963e550bc9117e6f53e945915aad9fc85f92d278c37905e7a4018200b4929f7"), looks := true }, kinds := [], alts := [], laidByText := true, laidKinds := [.data, .data, .data, .sentinel, .sentinel], laidTests := true, laidLooks := .later }
def NumNoughtsUptoCardSaid : Prop := Claim7.holds Tryd.pinned (.plain (OpenSpec.upto numNoughtsSpec)) numNoughtsUptoCard

/-- THE SECOND FORM's CARD OF 'butterylaw01.NumWords'. -/
def numWordsUptoCard : Claim7 := { stood := { row := numWordsUptoRow, standIns := [], harness := (true, "3963e550bc9117e6f53e945915aad9fc85f92d278c37905e7a4018200b4929f7"), looks := true }, kinds := [], alts := [], laidByText := true, laidKinds := [.data, .data, .data, .data, .sentinel, .sentinel, .pinned], laidTests := true, laidLooks := .later }
def NumWordsUptoCardSaid : Prop := Claim7.holds Tryd.pinned (.plain (OpenSpec.upto numWordsSpec)) numWordsUptoCard

/-- THE SECOND FORM's CARD OF 'butterylaw01.NumJoins'. -/
def numJoinsUptoCard : Claim7 := { stood := { row := numJoinsUptoRow, standIns := [], harness := (true, "3963e550bc9117e6f53e945915aad9fc85f92d278c37905e7a4018200b4929f7"), looks := true }, kinds := [], alts := [], laidByText := true, laidKinds := [.data, .data, .data, .data, .sentinel, .sentinel, .pinned], laidTests := true, laidLooks := .later }
def NumJoinsUptoCardSaid : Prop := Claim7.holds Tryd.pinned (.plain (OpenSpec.upto numJoinsSpec)) numJoinsUptoCard
end Rows
end Go.Proofs.YthcpepijelikcaaDoor
