/-
  DERIVED. GIVEN WITH THE SEED: THE CARDS: each row of YtdgeiadlijlkmaaGreatDoorRows.lean that lists a variable, with what it lists TIED to the program's text (the seventh form; the later family's looks); each row that meets fmt, with fmt's text TOLD by the authors' own Lean function (tested against real Go, not proved from fmt's source: count such statements apart). THE CARD IS WHAT COUNTS. Prove the row's statement (the work); the ties are given (YtdgeiadlijlkmaaGreatDoorTie.lean); close each card by the builder's one call (the guide's Derived/Test/ToyasCard.lean, 'card_holds'). Laid BY PROGRAM, IN A SANDBOX (cutbox-door.mjs). By AI agents, Wed Nov 11 2026. No macro, syntax, notation, axiom, sorry.
-/
import Derived.Test.YtdgeiadlijlkmaaGreatDoorRows
import GoSem.ClaimSeven
namespace Go.Proofs.YtdgeiadlijlkmaaGreatDoor
namespace Rows

/-- THE TIED CARD OF 'butterylaw18.MetainParses'. -/
def metainParsesCard : Claim7 := { stood := { row := metainParsesRow, standIns := [], harness := (true, "1b7c473217acaf54805053cf7696ea401bcabfd90b880724acea5668fcf716c6"), looks := true }, kinds := [], alts := [], laidByText := true, laidKinds := [.data, .data, .data, .data, .sentinel, .sentinel, .pinned], laidTests := true, laidLooks := .later }
def MetainParsesCardSaid : Prop := Claim7.holds Tryz.pinned (.plain (OpenSpec.ofChange metainParsesSpec)) metainParsesCard

/-- THE TIED CARD OF 'butterylaw18.MetainSane'. -/
def metainSaneCard : Claim7 := { stood := { row := metainSaneRow, standIns := [], harness := (true, "1b7c473217acaf54805053cf7696ea401bcabfd90b880724acea5668fcf716c6"), looks := true }, kinds := [], alts := [], laidByText := true, laidKinds := [.data, .data, .data, .data, .sentinel, .sentinel, .pinned], laidTests := true, laidLooks := .later }
def MetainSaneCardSaid : Prop := Claim7.holds Tryz.pinned (.plain (OpenSpec.ofChange metainSaneSpec)) metainSaneCard

/-- THE TIED CARD OF 'butterylaw18.MetainMore'. -/
def metainMoreCard : Claim7 := { stood := { row := metainMoreRow, standIns := [], harness := (true, "1b7c473217acaf54805053cf7696ea401bcabfd90b880724acea5668fcf716c6"), looks := true }, kinds := [], alts := [], laidByText := true, laidKinds := [.data, .data, .data, .data, .sentinel, .sentinel, .pinned], laidTests := true, laidLooks := .later }
def MetainMoreCardSaid : Prop := Claim7.holds Tryz.pinned (.plain (OpenSpec.ofChange metainMoreSpec)) metainMoreCard

/-- THE TIED CARD OF 'butterylaw18.MetainOrder'. -/
def metainOrderCard : Claim7 := { stood := { row := metainOrderRow, standIns := [], harness := (true, "1b7c473217acaf54805053cf7696ea401bcabfd90b880724acea5668fcf716c6"), looks := true }, kinds := [], alts := [], laidByText := true, laidKinds := [.data, .data, .data, .data, .sentinel, .sentinel, .pinned], laidTests := true, laidLooks := .later }
def MetainOrderCardSaid : Prop := Claim7.holds Tryz.pinned (.plain (OpenSpec.ofChange metainOrderSpec)) metainOrderCard

/-- THE TIED CARD OF 'butterylaw18.MetainBlanks'. -/
def metainBlanksCard : Claim7 := { stood := { row := metainBlanksRow, standIns := [], harness := (true, "1b7c473217acaf54805053cf7696ea401bcabfd90b880724acea5668fcf716c6"), looks := true }, kinds := [], alts := [], laidByText := true, laidKinds := [.data, .data, .data, .data, .sentinel, .sentinel, .pinned], laidTests := true, laidLooks := .later }
def MetainBlanksCardSaid : Prop := Claim7.holds Tryz.pinned (.plain (OpenSpec.ofChange metainBlanksSpec)) metainBlanksCard

/-- THE TIED CARD OF 'butterylaw18.MetainTwice'. -/
def metainTwiceCard : Claim7 := { stood := { row := metainTwiceRow, standIns := [], harness := (true, "1b7c473217acaf54805053cf7696ea401bcabfd90b880724acea5668fcf716c6"), looks := true }, kinds := [], alts := [], laidByText := true, laidKinds := [.data, .data, .data, .data, .sentinel, .sentinel, .pinned], laidTests := true, laidLooks := .later }
def MetainTwiceCardSaid : Prop := Claim7.holds Tryz.pinned (.plain (OpenSpec.ofChange metainTwiceSpec)) metainTwiceCard

/-- THE SECOND FORM's CARD OF 'butterylaw18.MetainParses'. -/
def metainParsesUptoCard : Claim7 := { stood := { row := metainParsesUptoRow, standIns := [], harness := (true, "1b7c473217acaf54805053cf7696ea401bcabfd90b880724acea5668fcf716c6"), looks := true }, kinds := [], alts := [], laidByText := true, laidKinds := [.data, .data, .data, .data, .sentinel, .sentinel, .pinned], laidTests := true, laidLooks := .later }
def MetainParsesUptoCardSaid : Prop := Claim7.holds Tryz.pinned (.plain (OpenSpec.upto metainParsesSpec)) metainParsesUptoCard

/-- THE SECOND FORM's CARD OF 'butterylaw18.MetainSane'. -/
def metainSaneUptoCard : Claim7 := { stood := { row := metainSaneUptoRow, standIns := [], harness := (true, "1b7c473217acaf54805053cf7696ea401bcabfd90b880724acea5668fcf716c6"), looks := true }, kinds := [], alts := [], laidByText := true, laidKinds := [.data, .data, .data, .data, .sentinel, .sentinel, .pinned], laidTests := true, laidLooks := .later }
def MetainSaneUptoCardSaid : Prop := Claim7.holds Tryz.pinned (.plain (OpenSpec.upto metainSaneSpec)) metainSaneUptoCard

/-- THE SECOND FORM's CARD OF 'butterylaw18.MetainMore'. -/
def metainMoreUptoCard : Claim7 := { stood := { row := metainMoreUptoRow, standIns := [], harness := (true, "1b7c473217acaf54805053cf7696ea401bcabfd90b880724acea5668fcf716c6"), looks := true }, kinds := [], alts := [], laidByText := true, laidKinds := [.data, .data, .data, .data, .sentinel, .sentinel, .pinned], laidTests := true, laidLooks := .later }
def MetainMoreUptoCardSaid : Prop := Claim7.holds Tryz.pinned (.plain (OpenSpec.upto metainMoreSpec)) metainMoreUptoCard

/-- THE SECOND FORM's CARD OF 'butterylaw18.MetainOrder'. -/
def metainOrderUptoCard : Claim7 := { stood := { row := metainOrderUptoRow, standIns := [], harness := (true, "1b7c473217acaf54805053cf7696ea401bcabfd90b880724acea5668fcf716c6"), looks := true }, kinds := [], alts := [], laidByText := true, laidKinds := [.data, .data, .data, .data, .sentinel, .sentinel, .pinned], laidTests := true, laidLooks := .later }
def MetainOrderUptoCardSaid : Prop := Claim7.holds Tryz.pinned (.plain (OpenSpec.upto metainOrderSpec)) metainOrderUptoCard

/-- THE SECOND FORM's CARD OF 'butterylaw18.MetainBlanks'. -/
def metainBlanksUptoCard : Claim7 := { stood := { row := metainBlanksUptoRow, standIns := [], harness := (true, "1b7c473217acaf54805053cf7696ea401bcabfd90b880724acea5668fcf716c6"), looks := true }, kinds := [], alts := [], laidByText := true, laidKinds := [.data, .data, .data, .data, .sentinel, .sentinel, .pinned], laidTests := true, laidLooks := .later }
def MetainBlanksUptoCardSaid : Prop := Claim7.holds Tryz.pinned (.plain (OpenSpec.upto metainBlanksSpec)) metainBlanksUptoCard

/-- THE SECOND FORM's CARD OF 'butterylaw18.MetainTwice'. -/
def metainTwiceUptoCard : Claim7 := { stood := { row := metainTwiceUptoRow, standIns := [], harness := (true, "1b7c473217acaf54805053cf7696ea401bcabfd90b880724acea5668fcf716c6"), looks := true }, kinds := [], alts := [], laidByText := true, laidKinds := [.data, .data, .data, .data, .sentinel, .sentinel, .pinned], laidTests := true, laidLooks := .later }
def MetainTwiceUptoCardSaid : Prop := Claim7.holds Tryz.pinned (.plain (OpenSpec.upto metainTwiceSpec)) metainTwiceUptoCard
end Rows
end Go.Proofs.YtdgeiadlijlkmaaGreatDoor
