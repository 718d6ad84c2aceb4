/-
  DERIVED. GIVEN WITH THE SEED: THE CARDS: each row of YtamndkiagenfnaaGreatDoorRows.lean that lists a variable, with what it lists TIED to the program's text (the seventh form; the later family's looks); each row that meets fmt, with fmt's text TOLD by the authors' own Lean function (tested against real Go, not proved from fmt's source: count such statements apart). THE CARD IS WHAT COUNTS. Prove the row's statement (the work); the ties are given (YtamndkiagenfnaaGreatDoorTie.lean); close each card by the builder's one call (the guide's Derived/Test/ToyasCard.lean, 'card_holds'). Laid BY PROGRAM, IN A SANDBOX (cutbox-door.mjs). By AI agents, Wed Nov 11 2026. No macro, syntax, notation, axiom, sorry.
-/
import Derived.Test.YtamndkiagenfnaaGreatDoorRows
import GoSem.ClaimSeven
namespace Go.Proofs.YtamndkiagenfnaaGreatDoor
namespace Rows

/-- THE TIED CARD OF 'butterylaw24.ScriptSays'. -/
def scriptSaysCard : Claim7 := { stood := { row := scriptSaysRow, standIns := [], harness := (true, "272c528ed1ab234ba5cb20f6d78b5d8153f5e8478243dbd8ddc4849efefac72b"), looks := true }, kinds := [], alts := [], laidByText := true, laidKinds := [.data, .data, .data, .data, .sentinel, .sentinel, .sentinel, .pinned], laidTests := true, laidLooks := .later }
def ScriptSaysCardSaid : Prop := Claim7.holds Tryz.pinned (.plain (OpenSpec.ofChange scriptSaysSpec)) scriptSaysCard

/-- THE TIED CARD OF 'butterylaw24.ScriptHears'. -/
def scriptHearsCard : Claim7 := { stood := { row := scriptHearsRow, standIns := [], harness := (true, "272c528ed1ab234ba5cb20f6d78b5d8153f5e8478243dbd8ddc4849efefac72b"), looks := true }, kinds := [], alts := [], laidByText := true, laidKinds := [.data, .data, .data, .data, .sentinel, .sentinel, .sentinel, .pinned], laidTests := true, laidLooks := .later }
def ScriptHearsCardSaid : Prop := Claim7.holds Tryz.pinned (.plain (OpenSpec.ofChange scriptHearsSpec)) scriptHearsCard

/-- THE TIED CARD OF 'butterylaw24.ScriptPlain'. -/
def scriptPlainCard : Claim7 := { stood := { row := scriptPlainRow, standIns := [], harness := (true, "272c528ed1ab234ba5cb20f6d78b5d8153f5e8478243dbd8ddc4849efefac72b"), looks := true }, kinds := [], alts := [], laidByText := true, laidKinds := [.data, .data, .data, .data, .sentinel, .sentinel, .sentinel, .pinned], laidTests := true, laidLooks := .later }
def ScriptPlainCardSaid : Prop := Claim7.holds Tryz.pinned (.plain (OpenSpec.ofChange scriptPlainSpec)) scriptPlainCard

/-- THE TIED CARD OF 'butterylaw24.ScriptWaits'. -/
def scriptWaitsCard : Claim7 := { stood := { row := scriptWaitsRow, standIns := [], harness := (true, "272c528ed1ab234ba5cb20f6d78b5d8153f5e8478243dbd8ddc4849efefac72b"), looks := true }, kinds := [], alts := [], laidByText := true, laidKinds := [.data, .data, .data, .data, .sentinel, .sentinel, .sentinel, .pinned], laidTests := true, laidLooks := .later }
def ScriptWaitsCardSaid : Prop := Claim7.holds Tryz.pinned (.plain (OpenSpec.ofChange scriptWaitsSpec)) scriptWaitsCard

/-- THE TIED CARD OF 'butterylaw24.ScriptTables'. -/
def scriptTablesCard : Claim7 := { stood := { row := scriptTablesRow, standIns := [], harness := (true, "272c528ed1ab234ba5cb20f6d78b5d8153f5e8478243dbd8ddc4849efefac72b"), looks := true }, kinds := [], alts := [], laidByText := true, laidKinds := [.data, .data, .data, .data, .sentinel, .sentinel, .sentinel, .pinned], laidTests := true, laidLooks := .later }
def ScriptTablesCardSaid : Prop := Claim7.holds Tryz.pinned (.plain (OpenSpec.ofChange scriptTablesSpec)) scriptTablesCard

/-- THE SECOND FORM's CARD OF 'butterylaw24.ScriptSays'. -/
def scriptSaysUptoCard : Claim7 := { stood := { row := scriptSaysUptoRow, standIns := [], harness := (true, "272c528ed1ab234ba5cb20f6d78b5d8153f5e8478243dbd8ddc4849efefac72b"), looks := true }, kinds := [], alts := [], laidByText := true, laidKinds := [.data, .data, .data, .data, .sentinel, .sentinel, .sentinel, .pinned], laidTests := true, laidLooks := .later }
def ScriptSaysUptoCardSaid : Prop := Claim7.holds Tryz.pinned (.plain (OpenSpec.upto scriptSaysSpec)) scriptSaysUptoCard

/-- THE SECOND FORM's CARD OF 'butterylaw24.ScriptHears'. -/
def scriptHearsUptoCard : Claim7 := { stood := { row := scriptHearsUptoRow, standIns := [], harness := (true, "272c528ed1ab234ba5cb20f6d78b5d8153f5e8478243dbd8ddc4849efefac72b"), looks := true }, kinds := [], alts := [], laidByText := true, laidKinds := [.data, .data, .data, .data, .sentinel, .sentinel, .sentinel, .pinned], laidTests := true, laidLooks := .later }
def ScriptHearsUptoCardSaid : Prop := Claim7.holds Tryz.pinned (.plain (OpenSpec.upto scriptHearsSpec)) scriptHearsUptoCard

/-- THE SECOND FORM's CARD OF 'butterylaw24.ScriptPlain'. -/
def scriptPlainUptoCard : Claim7 := { stood := { row := scriptPlainUptoRow, standIns := [], harness := (true, "272c528ed1ab234ba5cb20f6d78b5d8153f5e8478243dbd8ddc4849efefac72b"), looks := true }, kinds := [], alts := [], laidByText := true, laidKinds := [.data, .data, .data, .data, .sentinel, .sentinel, .sentinel, .pinned], laidTests := true, laidLooks := .later }
def ScriptPlainUptoCardSaid : Prop := Claim7.holds Tryz.pinned (.plain (OpenSpec.upto scriptPlainSpec)) scriptPlainUptoCard

/-- THE SECOND FORM's CARD OF 'butterylaw24.ScriptWaits'. -/
def scriptWaitsUptoCard : Claim7 := { stood := { row := scriptWaitsUptoRow, standIns := [], harness := (true, "272c528ed1ab234ba5cb20f6d78b5d8153f5e8478243dbd8ddc4849efefac72b"), looks := true }, kinds := [], alts := [], laidByText := true, laidKinds := [.data, .data, .data, .data, .sentinel, .sentinel, .sentinel, .pinned], laidTests := true, laidLooks := .later }
def ScriptWaitsUptoCardSaid : Prop := Claim7.holds Tryz.pinned (.plain (OpenSpec.upto scriptWaitsSpec)) scriptWaitsUptoCard

/-- THE SECOND FORM's CARD OF 'butterylaw24.ScriptTables'. -/
def scriptTablesUptoCard : Claim7 := { stood := { row := scriptTablesUptoRow, standIns := [], harness := (true, "272c528ed1ab234ba5cb20f6d78b5d8153f5e8478243dbd8ddc4849efefac72b"), looks := true }, kinds := [], alts := [], laidByText := true, laidKinds := [.data, .data, .data, .data, .sentinel, .sentinel, .sentinel, .pinned], laidTests := true, laidLooks := .later }
def ScriptTablesUptoCardSaid : Prop := Claim7.holds Tryz.pinned (.plain (OpenSpec.upto scriptTablesSpec)) scriptTablesUptoCard
end Rows
end Go.Proofs.YtamndkiagenfnaaGreatDoor
