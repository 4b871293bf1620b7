/-
  DERIVED. GIVEN WITH THE SEED: THE CARDS: each row of YtajgkmpjjdihdaaDoorRows.lean that lists a variable, with what it lists TIED to the program's text (the seventh form; the later family's looks); each row that meets fmt, with fmt's text TOLD by the authors' own Lean function (tested against real Go, not proved from fmt's source: count such statements apart). THE CARD IS WHAT COUNTS. Prove the row's statement (the work); the ties are given (YtajgkmpjjdihdaaDoorTie.lean); close each card by the builder's one call (the guide's Derived/Test/ToyasCard.lean, 'card_holds'). Laid BY PROGRAM, IN A SANDBOX (cutbox-door.mjs). By AI agents, Wed Nov 11 2026. No macro, syntax, notation, axiom, sorry.
-/
import Derived.Test.YtajgkmpjjdihdaaDoorRows
import GoSem.ClaimSeven
namespace Go.Proofs.YtajgkmpjjdihdaaDoor
namespace Rows

/-- THE TIED CARD OF 'cambistlaw01.CoinNames'. -/
def coinNamesCard : Claim7 := { stood := { row := coinNamesRow, standIns := [], harness := (true, "1a0630085c6d399026d186fbe287eddf4d70b04b6ca8495e7424f4c6a3e11f66"), looks := true }, kinds := [], alts := [], laidByText := true, laidKinds := [.data, .data, .data, .sentinel, .sentinel], laidTests := true, laidLooks := .later }
def CoinNamesCardSaid : Prop := Claim7.holds Tryd.pinned (.plain (OpenSpec.ofChange coinNamesSpec)) coinNamesCard

/-- THE TIED CARD OF 'cambistlaw01.CoinTells'. -/
def coinTellsCard : Claim7 := { stood := { row := coinTellsRow, standIns := [], harness := (true, "1a0630085c6d399026d186fbe287eddf4d70b04b6ca8495e7424f4c6a3e11f66"), looks := true }, kinds := [], alts := [], laidByText := true, laidKinds := [.data, .data, .data, .sentinel, .sentinel], laidTests := true, laidLooks := .later }
def CoinTellsCardSaid : Prop := Claim7.holds Tryd.pinned (.plain (OpenSpec.ofChange coinTellsSpec)) coinTellsCard

/-- THE TIED CARD OF 'cambistlaw01.CoinSums'. -/
def coinSumsCard : Claim7 := { stood := { row := coinSumsRow, standIns := [], harness := (true, "1a0630085c6d399026d186fbe287eddf4d70b04b6ca8495e7424f4c6a3e11f66"), looks := true }, kinds := [], alts := [], laidByText := true, laidKinds := [.data, .data, .data, .sentinel, .sentinel], laidTests := true, laidLooks := .later }
def CoinSumsCardSaid : Prop := Claim7.holds Tryd.pinned (.plain (OpenSpec.ofChange coinSumsSpec)) coinSumsCard

/-- THE TIED CARD OF 'cambistlaw01.CoinTexts'. -/
def coinTextsCard : Claim7 := { stood := { row := coinTextsRow, standIns := [], harness := (true, "1a0630085c6d399026d186fbe287eddf4d70b04b6ca8495e7424f4c6a3e11f66"), looks := true }, kinds := [], alts := [], laidByText := true, laidKinds := [.data, .data, .data, .sentinel, .sentinel], laidTests := true, laidLooks := .later }
def CoinTextsCardSaid : Prop := Claim7.holds Tryd.pinned (.plain (OpenSpec.ofChange coinTextsSpec)) coinTextsCard

/-- THE TIED CARD OF 'cambistlaw01.CoinBack'. -/
def coinBackCard : Claim7 := { stood := { row := coinBackRow, standIns := [], harness := (true, "1a0630085c6d399026d186fbe287eddf4d70b04b6ca8495e7424f4c6a3e11f66"), looks := true }, kinds := [], alts := [], laidByText := true, laidKinds := [.data, .data, .data, .sentinel, .sentinel], laidTests := true, laidLooks := .later }
def CoinBackCardSaid : Prop := Claim7.holds Tryd.pinned (.plain (OpenSpec.ofChange coinBackSpec)) coinBackCard

/-- THE TIED CARD OF 'cambistlaw01.CoinUndoes'. -/
def coinUndoesCard : Claim7 := { stood := { row := coinUndoesRow, standIns := [], harness := (true, "1a0630085c6d399026d186fbe287eddf4d70b04b6ca8495e7424f4c6a3e11f66"), looks := true }, kinds := [], alts := [], laidByText := true, laidKinds := [.data, .data, .data, .sentinel, .sentinel], laidTests := true, laidLooks := .later }
def CoinUndoesCardSaid : Prop := Claim7.holds Tryd.pinned (.plain (OpenSpec.ofChange coinUndoesSpec)) coinUndoesCard

/-- THE TIED CARD OF 'cambistlaw01.CoinOrder'. -/
def coinOrderCard : Claim7 := { stood := { row := coinOrderRow, standIns := [], harness := (true, "1a0630085c6d399026d186fbe287eddf4d70b04b6ca8495e7424f4c6a3e11f66"), looks := true }, kinds := [], alts := [], laidByText := true, laidKinds := [.data, .data, .data, .sentinel, .sentinel], laidTests := true, laidLooks := .later }
def CoinOrderCardSaid : Prop := Claim7.holds Tryd.pinned (.plain (OpenSpec.ofChange coinOrderSpec)) coinOrderCard

/-- THE TIED CARD OF 'cambistlaw01.CoinParts'. -/
def coinPartsCard : Claim7 := { stood := { row := coinPartsRow, standIns := [], harness := (true, "1a0630085c6d399026d186fbe287eddf4d70b04b6ca8495e7424f4c6a3e11f66"), looks := true }, kinds := [], alts := [], laidByText := true, laidKinds := [.data, .data, .data, .sentinel, .sentinel], laidTests := true, laidLooks := .later }
def CoinPartsCardSaid : Prop := Claim7.holds Tryd.pinned (.plain (OpenSpec.ofChange coinPartsSpec)) coinPartsCard

/-- THE SECOND FORM's CARD OF 'cambistlaw01.CoinNames'. -/
def coinNamesUptoCard : Claim7 := { stood := { row := coinNamesUptoRow, standIns := [], harness := (true, "1a0630085c6d399026d186fbe287eddf4d70b04b6ca8495e7424f4c6a3e11f66"), looks := true }, kinds := [], alts := [], laidByText := true, laidKinds := [.data, .data, .data, .sentinel, .sentinel], laidTests := true, laidLooks := .later }
def CoinNamesUptoCardSaid : Prop := Claim7.holds Tryd.pinned (.plain (OpenSpec.upto coinNamesSpec)) coinNamesUptoCard

/-- THE SECOND FORM's CARD OF 'cambistlaw01.CoinTells'. -/
def coinTellsUptoCard : Claim7 := { stood := { row := coinTellsUptoRow, standIns := [], harness := (true, "1a0630085c6d399026d186fbe287eddf4d70b04b6ca8495e7424f4c6a3e11f66"), looks := true }, kinds := [], alts := [], laidByText := true, laidKinds := [.data, .data, .data, .sentinel, .sentinel], laidTests := true, laidLooks := .later }
def CoinTellsUptoCardSaid : Prop := Claim7.holds Tryd.pinned (.plain (OpenSpec.upto coinTellsSpec)) coinTellsUptoCard

/-- THE SECOND FORM's CARD OF 'cambistlaw01.CoinSums'. -/
def coinSumsUptoCard : Claim7 := { stood := { row := coinSumsUptoRow, standIns := [], harness := (true, "1a0630085c6d399026d186fbe287eddf4d70b04b6ca8495e7424f4c6a3e11f66"), looks := true }, kinds := [], alts := [], laidByText := true, laidKinds := [.data, .data, .data, .sentinel, .sentinel], laidTests := true, laidLooks := .later }
def CoinSumsUptoCardSaid : Prop := Claim7.holds Tryd.pinned (.plain (OpenSpec.upto coinSumsSpec)) coinSumsUptoCard

/-- THE SECOND FORM's CARD OF 'cambistlaw01.CoinTexts'. -/
def coinTextsUptoCard : Claim7 := { stood := { row := coinTextsUptoRow, standIns := [], harness := (true, "1a0630085c6d399026d186fbe287eddf4d70b04b6ca8495e7424f4c6a3e11f66"), looks := true }, kinds := [], alts := [], laidByText := true, laidKinds := [.data, .data, .data, .sentinel, .sentinel], laidTests := true, laidLooks := .later }
def CoinTextsUptoCardSaid : Prop := Claim7.holds Tryd.pinned (.plain (OpenSpec.upto coinTextsSpec)) coinTextsUptoCard

/-- THE SECOND FORM's CARD OF 'cambistlaw01.CoinBack'. -/
def coinBackUptoCard : Claim7 := { stood := { row := coinBackUptoRow, standIns := [], harness := (true, "1a0630085c6d399026d186fbe287eddf4d70b04b6ca8495e7424f4c6a3e11f66"), looks := true }, kinds := [], alts := [], laidByText := true, laidKinds := [.data, .data, .data, .sentinel, .sentinel], laidTests := true, laidLooks := .later }
def CoinBackUptoCardSaid : Prop := Claim7.holds Tryd.pinned (.plain (OpenSpec.upto coinBackSpec)) coinBackUptoCard

/-- THE SECOND FORM's CARD OF 'cambistlaw01.CoinUndoes'. -/
def coinUndoesUptoCard : Claim7 := { stood := { row := coinUndoesUptoRow, standIns := [], harness := (true, "1a0630085c6d399026d186fbe287eddf4d70b04b6ca8495e7424f4c6a3e11f66"), looks := true }, kinds := [], alts := [], laidByText := true, laidKinds := [.data, .data, .data, .sentinel, .sentinel], laidTests := true, laidLooks := .later }
def CoinUndoesUptoCardSaid : Prop := Claim7.holds Tryd.pinned (.plain (OpenSpec.upto coinUndoesSpec)) coinUndoesUptoCard

/-- THE SECOND FORM's CARD OF 'cambistlaw01.CoinOrder'. -/
def coinOrderUptoCard : Claim7 := { stood := { row := coinOrderUptoRow, standIns := [], harness := (true, "1a0630085c6d399026d186fbe287eddf4d70b04b6ca8495e7424f4c6a3e11f66"), looks := true }, kinds := [], alts := [], laidByText := true, laidKinds := [.data, .data, .data, .sentinel, .sentinel], laidTests := true, laidLooks := .later }
def CoinOrderUptoCardSaid : Prop := Claim7.holds Tryd.pinned (.plain (OpenSpec.upto coinOrderSpec)) coinOrderUptoCard

/-- THE SECOND FORM's CARD OF 'cambistlaw01.CoinParts'. -/
def coinPartsUptoCard : Claim7 := { stood := { row := coinPartsUptoRow, standIns := [], harness := (true, "1a0630085c6d399026d186fbe287eddf4d70b04b6ca8495e7424f4c6a3e11f66"), looks := true }, kinds := [], alts := [], laidByText := true, laidKinds := [.data, .data, .data, .sentinel, .sentinel], laidTests := true, laidLooks := .later }
def CoinPartsUptoCardSaid : Prop := Claim7.holds Tryd.pinned (.plain (OpenSpec.upto coinPartsSpec)) coinPartsUptoCard
end Rows
end Go.Proofs.YtajgkmpjjdihdaaDoor
