/-
  DERIVED. GIVEN WITH THE SEED: THE CARDS: each row of YtnngbnhbmgdkoaaGreatDoorRows.lean that lists a variable, with what it lists TIED to the program's text (the seventh form; the later family's looks); each row that meets fmt, with fmt's text TOLD by the authors' own Lean function (tested against real Go, not proved from fmt's source: count such statements apart). THE CARD IS WHAT COUNTS. Prove the row's statement (the work); the ties are given (YtnngbnhbmgdkoaaGreatDoorTie.lean); close each card by the builder's one call (the guide's Derived/Test/ToyasCard.lean, 'card_holds'). Laid BY PROGRAM, IN A SANDBOX (cutbox-door.mjs). By AI agents, Wed Nov 11 2026. No macro, syntax, notation, axiom, sorry.
-/
import Derived.Test.YtnngbnhbmgdkoaaGreatDoorRows
import GoSem.ClaimSeven
namespace Go.Proofs.YtnngbnhbmgdkoaaGreatDoor
namespace Rows

/-- THE TIED CARD OF 'cambistlaw19.SlipTexts'. -/
def slipTextsCard : Claim7 := { stood := { row := slipTextsRow, standIns := [], harness := (true, "126d73ad78c32358437e84c4393d45334798f02db3e2003d969a901b45c42c96"), looks := true }, kinds := [], alts := [], laidByText := true, laidKinds := [.data, .data, .data, .data, .sentinel, .sentinel, .pinned], laidTests := true, laidLooks := .later }
def SlipTextsCardSaid : Prop := Claim7.holds Tryz.pinned (.plain (OpenSpec.ofChange slipTextsSpec)) slipTextsCard

/-- THE SECOND FORM's CARD OF 'cambistlaw19.SlipTexts'. -/
def slipTextsUptoCard : Claim7 := { stood := { row := slipTextsUptoRow, standIns := [], harness := (true, "126d73ad78c32358437e84c4393d45334798f02db3e2003d969a901b45c42c96"), looks := true }, kinds := [], alts := [], laidByText := true, laidKinds := [.data, .data, .data, .data, .sentinel, .sentinel, .pinned], laidTests := true, laidLooks := .later }
def SlipTextsUptoCardSaid : Prop := Claim7.holds Tryz.pinned (.plain (OpenSpec.upto slipTextsSpec)) slipTextsUptoCard
end Rows
end Go.Proofs.YtnngbnhbmgdkoaaGreatDoor
