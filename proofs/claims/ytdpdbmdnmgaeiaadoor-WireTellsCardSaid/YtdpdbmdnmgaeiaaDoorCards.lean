/-
  DERIVED. GIVEN WITH THE SEED: THE CARDS: each row of YtdpdbmdnmgaeiaaDoorRows.lean that lists a variable, with what it lists TIED to the program's text (the seventh form; the later family's looks); each row that meets fmt, with fmt's text TOLD by the authors' own Lean function (tested against real Go, not proved from fmt's source: count such statements apart). THE CARD IS WHAT COUNTS. Prove the row's statement (the work); the ties are given (YtdpdbmdnmgaeiaaDoorTie.lean); close each card by the builder's one call (the guide's Derived/Test/ToyasCard.lean, 'card_holds'). Laid BY PROGRAM, IN A SANDBOX (cutbox-door.mjs). By AI agents, Wed Nov 11 2026. No macro, syntax, notation, axiom, sorry.
-/
import Derived.Test.YtdpdbmdnmgaeiaaDoorRows
import GoSem.ClaimSeven
namespace Go.Proofs.YtdpdbmdnmgaeiaaDoor
namespace Rows

/-- THE TIED CARD OF 'cambistlaw20.WireNames'. -/
def wireNamesCard : Claim7 := { stood := { row := wireNamesRow, standIns := [], harness := (true, "a68d218946b50ce9e0b11e56f652665e47b0d9de3b4d209fd97ec6c6ea21e482"), looks := true }, kinds := [], alts := [], laidByText := true, laidKinds := [.data, .data, .data, .data, .sentinel, .sentinel, .pinned], laidTests := true, laidLooks := .later }
def WireNamesCardSaid : Prop := Claim7.holds Tryd.pinned (.plain (OpenSpec.ofChange wireNamesSpec)) wireNamesCard

/-- THE TIED CARD OF 'cambistlaw20.WireTells'. -/
def wireTellsCard : Claim7 := { stood := { row := wireTellsRow, standIns := [], harness := (true, "a68d218946b50ce9e0b11e56f652665e47b0d9de3b4d209fd97ec6c6ea21e482"), looks := true }, kinds := [], alts := [], laidByText := true, laidKinds := [.data, .data, .data, .data, .sentinel, .sentinel, .pinned], laidTests := true, laidLooks := .later }
def WireTellsCardSaid : Prop := Claim7.holds Tryd.pinned (.plain (OpenSpec.ofChange wireTellsSpec)) wireTellsCard

/-- THE TIED CARD OF 'cambistlaw20.WireBack'. -/
def wireBackCard : Claim7 := { stood := { row := wireBackRow, standIns := [], harness := (true, "a68d218946b50ce9e0b11e56f652665e47b0d9de3b4d209fd97ec6c6ea21e482"), looks := true }, kinds := [], alts := [], laidByText := true, laidKinds := [.data, .data, .data, .data, .sentinel, .sentinel, .pinned], laidTests := true, laidLooks := .later }
def WireBackCardSaid : Prop := Claim7.holds Tryd.pinned (.plain (OpenSpec.ofChange wireBackSpec)) wireBackCard

/-- THE TIED CARD OF 'cambistlaw20.WireStrict'. -/
def wireStrictCard : Claim7 := { stood := { row := wireStrictRow, standIns := [], harness := (true, "a68d218946b50ce9e0b11e56f652665e47b0d9de3b4d209fd97ec6c6ea21e482"), looks := true }, kinds := [], alts := [], laidByText := true, laidKinds := [.data, .data, .data, .data, .sentinel, .sentinel, .pinned], laidTests := true, laidLooks := .later }
def WireStrictCardSaid : Prop := Claim7.holds Tryd.pinned (.plain (OpenSpec.ofChange wireStrictSpec)) wireStrictCard

/-- THE TIED CARD OF 'cambistlaw20.WireEmpty'. -/
def wireEmptyCard : Claim7 := { stood := { row := wireEmptyRow, standIns := [], harness := (true, "a68d218946b50ce9e0b11e56f652665e47b0d9de3b4d209fd97ec6c6ea21e482"), looks := true }, kinds := [], alts := [], laidByText := true, laidKinds := [.data, .data, .data, .data, .sentinel, .sentinel, .pinned], laidTests := true, laidLooks := .later }
def WireEmptyCardSaid : Prop := Claim7.holds Tryd.pinned (.plain (OpenSpec.ofChange wireEmptySpec)) wireEmptyCard

/-- THE TIED CARD OF 'cambistlaw20.WireUnlike'. -/
def wireUnlikeCard : Claim7 := { stood := { row := wireUnlikeRow, standIns := [], harness := (true, "a68d218946b50ce9e0b11e56f652665e47b0d9de3b4d209fd97ec6c6ea21e482"), looks := true }, kinds := [], alts := [], laidByText := true, laidKinds := [.data, .data, .data, .data, .sentinel, .sentinel, .pinned], laidTests := true, laidLooks := .later }
def WireUnlikeCardSaid : Prop := Claim7.holds Tryd.pinned (.plain (OpenSpec.ofChange wireUnlikeSpec)) wireUnlikeCard

/-- THE SECOND FORM's CARD OF 'cambistlaw20.WireNames'. -/
def wireNamesUptoCard : Claim7 := { stood := { row := wireNamesUptoRow, standIns := [], harness := (true, "a68d218946b50ce9e0b11e56f652665e47b0d9de3b4d209fd97ec6c6ea21e482"), looks := true }, kinds := [], alts := [], laidByText := true, laidKinds := [.data, .data, .data, .data, .sentinel, .sentinel, .pinned], laidTests := true, laidLooks := .later }
def WireNamesUptoCardSaid : Prop := Claim7.holds Tryd.pinned (.plain (OpenSpec.upto wireNamesSpec)) wireNamesUptoCard

/-- THE SECOND FORM's CARD OF 'cambistlaw20.WireTells'. -/
def wireTellsUptoCard : Claim7 := { stood := { row := wireTellsUptoRow, standIns := [], harness := (true, "a68d218946b50ce9e0b11e56f652665e47b0d9de3b4d209fd97ec6c6ea21e482"), looks := true }, kinds := [], alts := [], laidByText := true, laidKinds := [.data, .data, .data, .data, .sentinel, .sentinel, .pinned], laidTests := true, laidLooks := .later }
def WireTellsUptoCardSaid : Prop := Claim7.holds Tryd.pinned (.plain (OpenSpec.upto wireTellsSpec)) wireTellsUptoCard

/-- THE SECOND FORM's CARD OF 'cambistlaw20.WireBack'. -/
def wireBackUptoCard : Claim7 := { stood := { row := wireBackUptoRow, standIns := [], harness := (true, "a68d218946b50ce9e0b11e56f652665e47b0d9de3b4d209fd97ec6c6ea21e482"), looks := true }, kinds := [], alts := [], laidByText := true, laidKinds := [.data, .data, .data, .data, .sentinel, .sentinel, .pinned], laidTests := true, laidLooks := .later }
def WireBackUptoCardSaid : Prop := Claim7.holds Tryd.pinned (.plain (OpenSpec.upto wireBackSpec)) wireBackUptoCard

/-- THE SECOND FORM's CARD OF 'cambistlaw20.WireStrict'. -/
def wireStrictUptoCard : Claim7 := { stood := { row := wireStrictUptoRow, standIns := [], harness := (true, "a68d218946b50ce9e0b11e56f652665e47b0d9de3b4d209fd97ec6c6ea21e482"), looks := true }, kinds := [], alts := [], laidByText := true, laidKinds := [.data, .data, .data, .data, .sentinel, .sentinel, .pinned], laidTests := true, laidLooks := .later }
def WireStrictUptoCardSaid : Prop := Claim7.holds Tryd.pinned (.plain (OpenSpec.upto wireStrictSpec)) wireStrictUptoCard

/-- THE SECOND FORM's CARD OF 'cambistlaw20.WireEmpty'. -/
def wireEmptyUptoCard : Claim7 := { stood := { row := wireEmptyUptoRow, standIns := [], harness := (true, "a68d218946b50ce9e0b11e56f652665e47b0d9de3b4d209fd97ec6c6ea21e482"), looks := true }, kinds := [], alts := [], laidByText := true, laidKinds := [.data, .data, .data, .data, .sentinel, .sentinel, .pinned], laidTests := true, laidLooks := .later }
def WireEmptyUptoCardSaid : Prop := Claim7.holds Tryd.pinned (.plain (OpenSpec.upto wireEmptySpec)) wireEmptyUptoCard

/-- THE SECOND FORM's CARD OF 'cambistlaw20.WireUnlike'. -/
def wireUnlikeUptoCard : Claim7 := { stood := { row := wireUnlikeUptoRow, standIns := [], harness := (true, "a68d218946b50ce9e0b11e56f652665e47b0d9de3b4d209fd97ec6c6ea21e482"), looks := true }, kinds := [], alts := [], laidByText := true, laidKinds := [.data, .data, .data, .data, .sentinel, .sentinel, .pinned], laidTests := true, laidLooks := .later }
def WireUnlikeUptoCardSaid : Prop := Claim7.holds Tryd.pinned (.plain (OpenSpec.upto wireUnlikeSpec)) wireUnlikeUptoCard
end Rows
end Go.Proofs.YtdpdbmdnmgaeiaaDoor
