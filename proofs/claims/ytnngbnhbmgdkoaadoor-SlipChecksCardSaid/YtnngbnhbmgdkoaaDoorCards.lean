/-
  DERIVED. GIVEN WITH THE SEED: THE CARDS: each row of YtnngbnhbmgdkoaaDoorRows.lean that lists a variable, with what it lists TIED to the program's text (the seventh form; the later family's looks); each row that meets fmt, with fmt's text TOLD by the authors' own Lean function (tested against real Go, not proved from fmt's source: count such statements apart). THE CARD IS WHAT COUNTS. Prove the row's statement (the work); the ties are given (YtnngbnhbmgdkoaaDoorTie.lean); close each card by the builder's one call (the guide's Derived/Test/ToyasCard.lean, 'card_holds'). Laid BY PROGRAM, IN A SANDBOX (cutbox-door.mjs). By AI agents, Wed Nov 11 2026. No macro, syntax, notation, axiom, sorry.
-/
import Derived.Test.YtnngbnhbmgdkoaaDoorRows
import GoSem.ClaimSeven
namespace Go.Proofs.YtnngbnhbmgdkoaaDoor
namespace Rows

/-- THE TIED CARD OF 'cambistlaw19.SlipNames'. -/
def slipNamesCard : Claim7 := { stood := { row := slipNamesRow, standIns := [], harness := (true, "97921a96751f7c8a5aad5be70f4daf254c9d14da48c0da045795b28567310047"), looks := true }, kinds := [], alts := [], laidByText := true, laidKinds := [.data, .data, .data, .data, .sentinel, .sentinel, .pinned], laidTests := true, laidLooks := .later }
def SlipNamesCardSaid : Prop := Claim7.holds Tryd.pinned (.plain (OpenSpec.ofChange slipNamesSpec)) slipNamesCard

/-- THE TIED CARD OF 'cambistlaw19.SlipMakes'. -/
def slipMakesCard : Claim7 := { stood := { row := slipMakesRow, standIns := [], harness := (true, "97921a96751f7c8a5aad5be70f4daf254c9d14da48c0da045795b28567310047"), looks := true }, kinds := [], alts := [], laidByText := true, laidKinds := [.data, .data, .data, .data, .sentinel, .sentinel, .pinned], laidTests := true, laidLooks := .later }
def SlipMakesCardSaid : Prop := Claim7.holds Tryd.pinned (.plain (OpenSpec.ofChange slipMakesSpec)) slipMakesCard

/-- THE TIED CARD OF 'cambistlaw19.SlipBack'. -/
def slipBackCard : Claim7 := { stood := { row := slipBackRow, standIns := [], harness := (true, "97921a96751f7c8a5aad5be70f4daf254c9d14da48c0da045795b28567310047"), looks := true }, kinds := [], alts := [], laidByText := true, laidKinds := [.data, .data, .data, .data, .sentinel, .sentinel, .pinned], laidTests := true, laidLooks := .later }
def SlipBackCardSaid : Prop := Claim7.holds Tryd.pinned (.plain (OpenSpec.ofChange slipBackSpec)) slipBackCard

/-- THE TIED CARD OF 'cambistlaw19.SlipDays'. -/
def slipDaysCard : Claim7 := { stood := { row := slipDaysRow, standIns := [], harness := (true, "97921a96751f7c8a5aad5be70f4daf254c9d14da48c0da045795b28567310047"), looks := true }, kinds := [], alts := [], laidByText := true, laidKinds := [.data, .data, .data, .data, .sentinel, .sentinel, .pinned], laidTests := true, laidLooks := .later }
def SlipDaysCardSaid : Prop := Claim7.holds Tryd.pinned (.plain (OpenSpec.ofChange slipDaysSpec)) slipDaysCard

/-- THE TIED CARD OF 'cambistlaw19.SlipChecks'. -/
def slipChecksCard : Claim7 := { stood := { row := slipChecksRow, standIns := [], harness := (true, "97921a96751f7c8a5aad5be70f4daf254c9d14da48c0da045795b28567310047"), looks := true }, kinds := [], alts := [], laidByText := true, laidKinds := [.data, .data, .data, .data, .sentinel, .sentinel, .pinned], laidTests := true, laidLooks := .later }
def SlipChecksCardSaid : Prop := Claim7.holds Tryd.pinned (.plain (OpenSpec.ofChange slipChecksSpec)) slipChecksCard

/-- THE SECOND FORM's CARD OF 'cambistlaw19.SlipNames'. -/
def slipNamesUptoCard : Claim7 := { stood := { row := slipNamesUptoRow, standIns := [], harness := (true, "97921a96751f7c8a5aad5be70f4daf254c9d14da48c0da045795b28567310047"), looks := true }, kinds := [], alts := [], laidByText := true, laidKinds := [.data, .data, .data, .data, .sentinel, .sentinel, .pinned], laidTests := true, laidLooks := .later }
def SlipNamesUptoCardSaid : Prop := Claim7.holds Tryd.pinned (.plain (OpenSpec.upto slipNamesSpec)) slipNamesUptoCard

/-- THE SECOND FORM's CARD OF 'cambistlaw19.SlipMakes'. -/
def slipMakesUptoCard : Claim7 := { stood := { row := slipMakesUptoRow, standIns := [], harness := (true, "97921a96751f7c8a5aad5be70f4daf254c9d14da48c0da045795b28567310047"), looks := true }, kinds := [], alts := [], laidByText := true, laidKinds := [.data, .data, .data, .data, .sentinel, .sentinel, .pinned], laidTests := true, laidLooks := .later }
def SlipMakesUptoCardSaid : Prop := Claim7.holds Tryd.pinned (.plain (OpenSpec.upto slipMakesSpec)) slipMakesUptoCard

/-- THE SECOND FORM's CARD OF 'cambistlaw19.SlipBack'. -/
def slipBackUptoCard : Claim7 := { stood := { row := slipBackUptoRow, standIns := [], harness := (true, "97921a96751f7c8a5aad5be70f4daf254c9d14da48c0da045795b28567310047"), looks := true }, kinds := [], alts := [], laidByText := true, laidKinds := [.data, .data, .data, .data, .sentinel, .sentinel, .pinned], laidTests := true, laidLooks := .later }
def SlipBackUptoCardSaid : Prop := Claim7.holds Tryd.pinned (.plain (OpenSpec.upto slipBackSpec)) slipBackUptoCard

/-- THE SECOND FORM's CARD OF 'cambistlaw19.SlipDays'. -/
def slipDaysUptoCard : Claim7 := { stood := { row := slipDaysUptoRow, standIns := [], harness := (true, "97921a96751f7c8a5aad5be70f4daf254c9d14da48c0da045795b28567310047"), looks := true }, kinds := [], alts := [], laidByText := true, laidKinds := [.data, .data, .data, .data, .sentinel, .sentinel, .pinned], laidTests := true, laidLooks := .later }
def SlipDaysUptoCardSaid : Prop := Claim7.holds Tryd.pinned (.plain (OpenSpec.upto slipDaysSpec)) slipDaysUptoCard

/-- THE SECOND FORM's CARD OF 'cambistlaw19.SlipChecks'. -/
def slipChecksUptoCard : Claim7 := { stood := { row := slipChecksUptoRow, standIns := [], harness := (true, "97921a96751f7c8a5aad5be70f4daf254c9d14da48c0da045795b28567310047"), looks := true }, kinds := [], alts := [], laidByText := true, laidKinds := [.data, .data, .data, .data, .sentinel, .sentinel, .pinned], laidTests := true, laidLooks := .later }
def SlipChecksUptoCardSaid : Prop := Claim7.holds Tryd.pinned (.plain (OpenSpec.upto slipChecksSpec)) slipChecksUptoCard
end Rows
end Go.Proofs.YtnngbnhbmgdkoaaDoor
