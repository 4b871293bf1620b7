/-
  DERIVED. GIVEN WITH THE SEED: THE CARDS: each row of YtjlifcbddednaaaDoorRows.lean that lists a variable, with what it lists TIED to the program's text (the seventh form; the later family's looks); each row that meets fmt, with fmt's text TOLD by the authors' own Lean function (tested against real Go, not proved from fmt's source: count such statements apart). THE CARD IS WHAT COUNTS. Prove the row's statement (the work); the ties are given (YtjlifcbddednaaaDoorTie.lean); close each card by the builder's one call (the guide's Derived/Test/ToyasCard.lean, 'card_holds'). Laid BY PROGRAM, IN A SANDBOX (cutbox-door.mjs). By AI agents, Wed Nov 11 2026. No macro, syntax, notation, axiom, sorry.
-/
import Derived.Test.YtjlifcbddednaaaDoorRows
import GoSem.ClaimSeven
namespace Go.Proofs.YtjlifcbddednaaaDoor
namespace Rows

/-- THE TIED CARD OF 'cambistlaw12.JournalNames'. -/
def journalNamesCard : Claim7 := { stood := { row := journalNamesRow, standIns := [], harness := (true, "8849808938c4644a3e7927ff0424bb0b838963985ba6fee7425fa0fbc90f9cec"), looks := true }, kinds := [], alts := [], laidByText := true, laidKinds := [.data, .data, .data, .data, .sentinel, .sentinel, .pinned], laidTests := true, laidLooks := .later }
def JournalNamesCardSaid : Prop := Claim7.holds Tryd.pinned (.plain (OpenSpec.ofChange journalNamesSpec)) journalNamesCard

/-- THE TIED CARD OF 'cambistlaw12.JournalPairs'. -/
def journalPairsCard : Claim7 := { stood := { row := journalPairsRow, standIns := [], harness := (true, "8849808938c4644a3e7927ff0424bb0b838963985ba6fee7425fa0fbc90f9cec"), looks := true }, kinds := [], alts := [], laidByText := true, laidKinds := [.data, .data, .data, .data, .sentinel, .sentinel, .pinned], laidTests := true, laidLooks := .later }
def JournalPairsCardSaid : Prop := Claim7.holds Tryd.pinned (.plain (OpenSpec.ofChange journalPairsSpec)) journalPairsCard

/-- THE TIED CARD OF 'cambistlaw12.JournalBack'. -/
def journalBackCard : Claim7 := { stood := { row := journalBackRow, standIns := [], harness := (true, "8849808938c4644a3e7927ff0424bb0b838963985ba6fee7425fa0fbc90f9cec"), looks := true }, kinds := [], alts := [], laidByText := true, laidKinds := [.data, .data, .data, .data, .sentinel, .sentinel, .pinned], laidTests := true, laidLooks := .later }
def JournalBackCardSaid : Prop := Claim7.holds Tryd.pinned (.plain (OpenSpec.ofChange journalBackSpec)) journalBackCard

/-- THE TIED CARD OF 'cambistlaw12.JournalLegs'. -/
def journalLegsCard : Claim7 := { stood := { row := journalLegsRow, standIns := [], harness := (true, "8849808938c4644a3e7927ff0424bb0b838963985ba6fee7425fa0fbc90f9cec"), looks := true }, kinds := [], alts := [], laidByText := true, laidKinds := [.data, .data, .data, .data, .sentinel, .sentinel, .pinned], laidTests := true, laidLooks := .later }
def JournalLegsCardSaid : Prop := Claim7.holds Tryd.pinned (.plain (OpenSpec.ofChange journalLegsSpec)) journalLegsCard

/-- THE TIED CARD OF 'cambistlaw12.JournalSums'. -/
def journalSumsCard : Claim7 := { stood := { row := journalSumsRow, standIns := [], harness := (true, "8849808938c4644a3e7927ff0424bb0b838963985ba6fee7425fa0fbc90f9cec"), looks := true }, kinds := [], alts := [], laidByText := true, laidKinds := [.data, .data, .data, .data, .sentinel, .sentinel, .pinned], laidTests := true, laidLooks := .later }
def JournalSumsCardSaid : Prop := Claim7.holds Tryd.pinned (.plain (OpenSpec.ofChange journalSumsSpec)) journalSumsCard

/-- THE SECOND FORM's CARD OF 'cambistlaw12.JournalNames'. -/
def journalNamesUptoCard : Claim7 := { stood := { row := journalNamesUptoRow, standIns := [], harness := (true, "8849808938c4644a3e7927ff0424bb0b838963985ba6fee7425fa0fbc90f9cec"), looks := true }, kinds := [], alts := [], laidByText := true, laidKinds := [.data, .data, .data, .data, .sentinel, .sentinel, .pinned], laidTests := true, laidLooks := .later }
def JournalNamesUptoCardSaid : Prop := Claim7.holds Tryd.pinned (.plain (OpenSpec.upto journalNamesSpec)) journalNamesUptoCard

/-- THE SECOND FORM's CARD OF 'cambistlaw12.JournalPairs'. -/
def journalPairsUptoCard : Claim7 := { stood := { row := journalPairsUptoRow, standIns := [], harness := (true, "8849808938c4644a3e7927ff0424bb0b838963985ba6fee7425fa0fbc90f9cec"), looks := true }, kinds := [], alts := [], laidByText := true, laidKinds := [.data, .data, .data, .data, .sentinel, .sentinel, .pinned], laidTests := true, laidLooks := .later }
def JournalPairsUptoCardSaid : Prop := Claim7.holds Tryd.pinned (.plain (OpenSpec.upto journalPairsSpec)) journalPairsUptoCard

/-- THE SECOND FORM's CARD OF 'cambistlaw12.JournalBack'. -/
def journalBackUptoCard : Claim7 := { stood := { row := journalBackUptoRow, standIns := [], harness := (true, "8849808938c4644a3e7927ff0424bb0b838963985ba6fee7425fa0fbc90f9cec"), looks := true }, kinds := [], alts := [], laidByText := true, laidKinds := [.data, .data, .data, .data, .sentinel, .sentinel, .pinned], laidTests := true, laidLooks := .later }
def JournalBackUptoCardSaid : Prop := Claim7.holds Tryd.pinned (.plain (OpenSpec.upto journalBackSpec)) journalBackUptoCard

/-- THE SECOND FORM's CARD OF 'cambistlaw12.JournalLegs'. -/
def journalLegsUptoCard : Claim7 := { stood := { row := journalLegsUptoRow, standIns := [], harness := (true, "8849808938c4644a3e7927ff0424bb0b838963985ba6fee7425fa0fbc90f9cec"), looks := true }, kinds := [], alts := [], laidByText := true, laidKinds := [.data, .data, .data, .data, .sentinel, .sentinel, .pinned], laidTests := true, laidLooks := .later }
def JournalLegsUptoCardSaid : Prop := Claim7.holds Tryd.pinned (.plain (OpenSpec.upto journalLegsSpec)) journalLegsUptoCard

/-- THE SECOND FORM's CARD OF 'cambistlaw12.JournalSums'. -/
def journalSumsUptoCard : Claim7 := { stood := { row := journalSumsUptoRow, standIns := [], harness := (true, "8849808938c4644a3e7927ff0424bb0b838963985ba6fee7425fa0fbc90f9cec"), looks := true }, kinds := [], alts := [], laidByText := true, laidKinds := [.data, .data, .data, .data, .sentinel, .sentinel, .pinned], laidTests := true, laidLooks := .later }
def JournalSumsUptoCardSaid : Prop := Claim7.holds Tryd.pinned (.plain (OpenSpec.upto journalSumsSpec)) journalSumsUptoCard
end Rows
end Go.Proofs.YtjlifcbddednaaaDoor
