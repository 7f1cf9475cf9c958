/-
  DERIVED. GIVEN WITH THE SEED: THE CARDS: each row of YtinjibbjlcfkaaaDoorRows.lean that lists a variable, with what it lists TIED to the program's text (the seventh form; the later family's looks); each row that meets fmt, with fmt's text TOLD by the authors' own Lean function (tested against real Go, not proved from fmt's source: count such statements apart). THE CARD IS WHAT COUNTS. Prove the row's statement (the work); the ties are given (YtinjibbjlcfkaaaDoorTie.lean); close each card by the builder's one call (the guide's Derived/Test/ToyasCard.lean, 'card_holds'). Laid BY PROGRAM, IN A SANDBOX (cutbox-door.mjs). By AI agents, Wed Nov 11 2026. No macro, syntax, notation, axiom, sorry.
-/
import Derived.Test.YtinjibbjlcfkaaaDoorRows
import GoSem.ClaimSeven
namespace Go.Proofs.YtinjibbjlcfkaaaDoor
namespace Rows

/-- THE TIED CARD OF 'instarlaw05.RowPicks'. -/
def rowPicksCard : Claim7 := { stood := { row := rowPicksRow, standIns := [], harness := (true, "09910d64a10f5f97f6e1dc72fd2bc0cb66555bc8c357305459103e2d0aa51afa"), looks := false }, kinds := [], alts := [], laidByText := true, laidKinds := [.data, .data, .data, .data, .pinned], laidTests := true, laidLooks := .later }
def RowPicksCardSaid : Prop := Claim7.holds Tryd.pinned (.plain (OpenSpec.ofChange rowPicksSpec)) rowPicksCard

/-- THE TIED CARD OF 'instarlaw05.RowTells'. -/
def rowTellsCard : Claim7 := { stood := { row := rowTellsRow, standIns := [], harness := (true, "09910d64a10f5f97f6e1dc72fd2bc0cb66555bc8c357305459103e2d0aa51afa"), looks := false }, kinds := [], alts := [], laidByText := true, laidKinds := [.data, .data, .data, .data, .pinned], laidTests := true, laidLooks := .later }
def RowTellsCardSaid : Prop := Claim7.holds Tryd.pinned (.plain (OpenSpec.ofChange rowTellsSpec)) rowTellsCard

/-- THE TIED CARD OF 'instarlaw05.RowOrder'. -/
def rowOrderCard : Claim7 := { stood := { row := rowOrderRow, standIns := [], harness := (true, "09910d64a10f5f97f6e1dc72fd2bc0cb66555bc8c357305459103e2d0aa51afa"), looks := false }, kinds := [], alts := [], laidByText := true, laidKinds := [.data, .data, .data, .data, .pinned], laidTests := true, laidLooks := .later }
def RowOrderCardSaid : Prop := Claim7.holds Tryd.pinned (.plain (OpenSpec.ofChange rowOrderSpec)) rowOrderCard

/-- THE TIED CARD OF 'instarlaw05.RowAgain'. -/
def rowAgainCard : Claim7 := { stood := { row := rowAgainRow, standIns := [], harness := (true, "09910d64a10f5f97f6e1dc72fd2bc0cb66555bc8c357305459103e2d0aa51afa"), looks := false }, kinds := [], alts := [], laidByText := true, laidKinds := [.data, .data, .data, .data, .pinned], laidTests := true, laidLooks := .later }
def RowAgainCardSaid : Prop := Claim7.holds Tryd.pinned (.plain (OpenSpec.ofChange rowAgainSpec)) rowAgainCard

/-- THE SECOND FORM's CARD OF 'instarlaw05.RowPicks'. -/
def rowPicksUptoCard : Claim7 := { stood := { row := rowPicksUptoRow, standIns := [], harness := (true, "09910d64a10f5f97f6e1dc72fd2bc0cb66555bc8c357305459103e2d0aa51afa"), looks := false }, kinds := [], alts := [], laidByText := true, laidKinds := [.data, .data, .data, .data, .pinned], laidTests := true, laidLooks := .later }
def RowPicksUptoCardSaid : Prop := Claim7.holds Tryd.pinned (.plain (OpenSpec.upto rowPicksSpec)) rowPicksUptoCard

/-- THE SECOND FORM's CARD OF 'instarlaw05.RowTells'. -/
def rowTellsUptoCard : Claim7 := { stood := { row := rowTellsUptoRow, standIns := [], harness := (true, "09910d64a10f5f97f6e1dc72fd2bc0cb66555bc8c357305459103e2d0aa51afa"), looks := false }, kinds := [], alts := [], laidByText := true, laidKinds := [.data, .data, .data, .data, .pinned], laidTests := true, laidLooks := .later }
def RowTellsUptoCardSaid : Prop := Claim7.holds Tryd.pinned (.plain (OpenSpec.upto rowTellsSpec)) rowTellsUptoCard

/-- THE SECOND FORM's CARD OF 'instarlaw05.RowOrder'. -/
def rowOrderUptoCard : Claim7 := { stood := { row := rowOrderUptoRow, standIns := [], harness := (true, "09910d64a10f5f97f6e1dc72fd2bc0cb66555bc8c357305459103e2d0aa51afa"), looks := false }, kinds := [], alts := [], laidByText := true, laidKinds := [.data, .data, .data, .data, .pinned], laidTests := true, laidLooks := .later }
def RowOrderUptoCardSaid : Prop := Claim7.holds Tryd.pinned (.plain (OpenSpec.upto rowOrderSpec)) rowOrderUptoCard

/-- THE SECOND FORM's CARD OF 'instarlaw05.RowAgain'. -/
def rowAgainUptoCard : Claim7 := { stood := { row := rowAgainUptoRow, standIns := [], harness := (true, "09910d64a10f5f97f6e1dc72fd2bc0cb66555bc8c357305459103e2d0aa51afa"), looks := false }, kinds := [], alts := [], laidByText := true, laidKinds := [.data, .data, .data, .data, .pinned], laidTests := true, laidLooks := .later }
def RowAgainUptoCardSaid : Prop := Claim7.holds Tryd.pinned (.plain (OpenSpec.upto rowAgainSpec)) rowAgainUptoCard
end Rows
end Go.Proofs.YtinjibbjlcfkaaaDoor
