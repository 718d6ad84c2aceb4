/-
  DERIVED. GIVEN WITH THE SEED: THE CARDS: each row of YtkolleohenjhmaaDoorRows.lean that lists a variable, with what it lists TIED to the program's text (the seventh form; the later family's looks); each row that meets fmt, with fmt's text TOLD by the authors' own Lean function (tested against real Go, not proved from fmt's source: count such statements apart). THE CARD IS WHAT COUNTS. Prove the row's statement (the work); the ties are given (YtkolleohenjhmaaDoorTie.lean); close each card by the builder's one call (the guide's Derived/Test/ToyasCard.lean, 'card_holds'). Laid BY PROGRAM, IN A SANDBOX (cutbox-door.mjs). By AI agents, Wed Nov 11 2026. No macro, syntax, notation, axiom, sorry.
-/
import Derived.Test.YtkolleohenjhmaaDoorRows
import GoSem.ClaimSeven
namespace Go.Proofs.YtkolleohenjhmaaDoor
namespace Rows

/-- THE TIED CARD OF 'butterylaw15.TextoutAnswers'. -/
def textoutAnswersCard : Claim7 := { stood := { row := textoutAnswersRow, standIns := [], harness := (true, "df909d318de1f07c5e38e784370009d430c00249395ff47353992ceb5a927243"), looks := false }, kinds := [], alts := [], laidByText := true, laidKinds := [.data, .data, .data, .sentinel], laidTests := true, laidLooks := .later }
def TextoutAnswersCardSaid : Prop := Claim7.holds Tryd.pinned (.plain (OpenSpec.ofChange textoutAnswersSpec)) textoutAnswersCard

/-- THE TIED CARD OF 'butterylaw15.TextoutSilent'. -/
def textoutSilentCard : Claim7 := { stood := { row := textoutSilentRow, standIns := [], harness := (true, "df909d318de1f07c5e38e784370009d430c00249395ff47353992ceb5a927243"), looks := false }, kinds := [], alts := [], laidByText := true, laidKinds := [.data, .data, .data, .sentinel], laidTests := true, laidLooks := .later }
def TextoutSilentCardSaid : Prop := Claim7.holds Tryd.pinned (.plain (OpenSpec.ofChange textoutSilentSpec)) textoutSilentCard

/-- THE TIED CARD OF 'butterylaw15.TextoutHits'. -/
def textoutHitsCard : Claim7 := { stood := { row := textoutHitsRow, standIns := [], harness := (true, "df909d318de1f07c5e38e784370009d430c00249395ff47353992ceb5a927243"), looks := false }, kinds := [], alts := [], laidByText := true, laidKinds := [.data, .data, .data, .sentinel], laidTests := true, laidLooks := .later }
def TextoutHitsCardSaid : Prop := Claim7.holds Tryd.pinned (.plain (OpenSpec.ofChange textoutHitsSpec)) textoutHitsCard

/-- THE TIED CARD OF 'butterylaw15.TextoutMany'. -/
def textoutManyCard : Claim7 := { stood := { row := textoutManyRow, standIns := [], harness := (true, "df909d318de1f07c5e38e784370009d430c00249395ff47353992ceb5a927243"), looks := false }, kinds := [], alts := [], laidByText := true, laidKinds := [.data, .data, .data, .sentinel], laidTests := true, laidLooks := .later }
def TextoutManyCardSaid : Prop := Claim7.holds Tryd.pinned (.plain (OpenSpec.ofChange textoutManySpec)) textoutManyCard

/-- THE TIED CARD OF 'butterylaw15.TextoutWords'. -/
def textoutWordsCard : Claim7 := { stood := { row := textoutWordsRow, standIns := [], harness := (true, "df909d318de1f07c5e38e784370009d430c00249395ff47353992ceb5a927243"), looks := false }, kinds := [], alts := [], laidByText := true, laidKinds := [.data, .data, .data, .sentinel], laidTests := true, laidLooks := .later }
def TextoutWordsCardSaid : Prop := Claim7.holds Tryd.pinned (.plain (OpenSpec.ofChange textoutWordsSpec)) textoutWordsCard

/-- THE SECOND FORM's CARD OF 'butterylaw15.TextoutAnswers'. -/
def textoutAnswersUptoCard : Claim7 := { stood := { row := textoutAnswersUptoRow, standIns := [], harness := (true, "df909d318de1f07c5e38e784370009d430c00249395ff47353992ceb5a927243"), looks := false }, kinds := [], alts := [], laidByText := true, laidKinds := [.data, .data, .data, .sentinel], laidTests := true, laidLooks := .later }
def TextoutAnswersUptoCardSaid : Prop := Claim7.holds Tryd.pinned (.plain (OpenSpec.upto textoutAnswersSpec)) textoutAnswersUptoCard

/-- THE SECOND FORM's CARD OF 'butterylaw15.TextoutSilent'. -/
def textoutSilentUptoCard : Claim7 := { stood := { row := textoutSilentUptoRow, standIns := [], harness := (true, "df909d318de1f07c5e38e784370009d430c00249395ff47353992ceb5a927243"), looks := false }, kinds := [], alts := [], laidByText := true, laidKinds := [.data, .data, .data, .sentinel], laidTests := true, laidLooks := .later }
def TextoutSilentUptoCardSaid : Prop := Claim7.holds Tryd.pinned (.plain (OpenSpec.upto textoutSilentSpec)) textoutSilentUptoCard

/-- THE SECOND FORM's CARD OF 'butterylaw15.TextoutHits'. -/
def textoutHitsUptoCard : Claim7 := { stood := { row := textoutHitsUptoRow, standIns := [], harness := (true, "df909d318de1f07c5e38e784370009d430c00249395ff47353992ceb5a927243"), looks := false }, kinds := [], alts := [], laidByText := true, laidKinds := [.data, .data, .data, .sentinel], laidTests := true, laidLooks := .later }
def TextoutHitsUptoCardSaid : Prop := Claim7.holds Tryd.pinned (.plain (OpenSpec.upto textoutHitsSpec)) textoutHitsUptoCard

/-- THE SECOND FORM's CARD OF 'butterylaw15.TextoutMany'. -/
def textoutManyUptoCard : Claim7 := { stood := { row := textoutManyUptoRow, standIns := [], harness := (true, "df909d318de1f07c5e38e784370009d430c00249395ff47353992ceb5a927243"), looks := false }, kinds := [], alts := [], laidByText := true, laidKinds := [.data, .data, .data, .sentinel], laidTests := true, laidLooks := .later }
def TextoutManyUptoCardSaid : Prop := Claim7.holds Tryd.pinned (.plain (OpenSpec.upto textoutManySpec)) textoutManyUptoCard

/-- THE SECOND FORM's CARD OF 'butterylaw15.TextoutWords'. -/
def textoutWordsUptoCard : Claim7 := { stood := { row := textoutWordsUptoRow, standIns := [], harness := (true, "df909d318de1f07c5e38e784370009d430c00249395ff47353992ceb5a927243"), looks := false }, kinds := [], alts := [], laidByText := true, laidKinds := [.data, .data, .data, .sentinel], laidTests := true, laidLooks := .later }
def TextoutWordsUptoCardSaid : Prop := Claim7.holds Tryd.pinned (.plain (OpenSpec.upto textoutWordsSpec)) textoutWordsUptoCard
end Rows
end Go.Proofs.YtkolleohenjhmaaDoor
