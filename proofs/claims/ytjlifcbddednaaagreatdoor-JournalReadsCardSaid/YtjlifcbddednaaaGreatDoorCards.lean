/-
  DERIVED. GIVEN WITH THE SEED: THE CARDS: each row of YtjlifcbddednaaaGreatDoorRows.lean that lists a variable, with what it lists TIED to the program's text (the seventh form; the later family's looks); each row that meets fmt, with fmt's text TOLD by the authors' own Lean function (tested against real Go, not proved from fmt's source: count such statements apart). THE CARD IS WHAT COUNTS. Prove the row's statement (the work); the ties are given (YtjlifcbddednaaaGreatDoorTie.lean); close each card by the builder's one call (the guide's Derived/Test/ToyasCard.lean, 'card_holds'). Laid BY PROGRAM, IN A SANDBOX (cutbox-door.mjs). By AI agents, Wed Nov 11 2026. No macro, syntax, notation, axiom, sorry.
-/
import Derived.Test.YtjlifcbddednaaaGreatDoorRows
import GoSem.ClaimSeven
namespace Go.Proofs.YtjlifcbddednaaaGreatDoor
namespace Rows

/-- THE TIED CARD OF 'cambistlaw12.JournalReads'. -/
def journalReadsCard : Claim7 := { stood := { row := journalReadsRow, standIns := [], harness := (true, "d16a3830d9db4db87cc3a3e0811a11c97244af6018f9f87c8c129094142172ba"), looks := true }, kinds := [], alts := [], laidByText := true, laidKinds := [.data, .data, .data, .data, .sentinel, .sentinel, .pinned], laidTests := true, laidLooks := .later }
def JournalReadsCardSaid : Prop := Claim7.holds Tryz.pinned (.plain (OpenSpec.ofChange journalReadsSpec)) journalReadsCard

/-- THE SECOND FORM's CARD OF 'cambistlaw12.JournalReads'. -/
def journalReadsUptoCard : Claim7 := { stood := { row := journalReadsUptoRow, standIns := [], harness := (true, "d16a3830d9db4db87cc3a3e0811a11c97244af6018f9f87c8c129094142172ba"), looks := true }, kinds := [], alts := [], laidByText := true, laidKinds := [.data, .data, .data, .data, .sentinel, .sentinel, .pinned], laidTests := true, laidLooks := .later }
def JournalReadsUptoCardSaid : Prop := Claim7.holds Tryz.pinned (.plain (OpenSpec.upto journalReadsSpec)) journalReadsUptoCard
end Rows
end Go.Proofs.YtjlifcbddednaaaGreatDoor
