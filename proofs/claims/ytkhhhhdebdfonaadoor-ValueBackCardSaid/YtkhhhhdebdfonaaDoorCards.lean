/-
  DERIVED. GIVEN WITH THE SEED: THE CARDS: each row of YtkhhhhdebdfonaaDoorRows.lean that lists a variable, with what it lists TIED to the program's text (the seventh form; the later family's looks); each row that meets fmt, with fmt's text TOLD by the authors' own Lean function (tested against real Go, not proved from fmt's source: count such statements apart). THE CARD IS WHAT COUNTS. Prove the row's statement (the work); the ties are given (YtkhhhhdebdfonaaDoorTie.lean); close each card by the builder's one call (the guide's Derived/Test/ToyasCard.lean, 'card_holds'). Laid BY PROGRAM, IN A SANDBOX (cutbox-door.mjs). By AI agents, Wed Nov 11 2026. No macro, syntax, notation, axiom, sorry.
-/
import Derived.Test.YtkhhhhdebdfonaaDoorRows
import GoSem.ClaimSeven
namespace Go.Proofs.YtkhhhhdebdfonaaDoor
namespace Rows

/-- THE TIED CARD OF 'instarlaw03.ValueCasts'. -/
def valueCastsCard : Claim7 := { stood := { row := valueCastsRow, standIns := [], harness := (true, "36c3687909fe3d9e58e0f631b950e05ec3c5af4131df9ae389fada48fca62d10"), looks := false }, kinds := [], alts := [], laidByText := true, laidKinds := [.data, .data, .data, .data, .pinned], laidTests := true, laidLooks := .later }
def ValueCastsCardSaid : Prop := Claim7.holds Tryd.pinned (.plain (OpenSpec.ofChange valueCastsSpec)) valueCastsCard

/-- THE TIED CARD OF 'instarlaw03.ValueNames'. -/
def valueNamesCard : Claim7 := { stood := { row := valueNamesRow, standIns := [], harness := (true, "36c3687909fe3d9e58e0f631b950e05ec3c5af4131df9ae389fada48fca62d10"), looks := false }, kinds := [], alts := [], laidByText := true, laidKinds := [.data, .data, .data, .data, .pinned], laidTests := true, laidLooks := .later }
def ValueNamesCardSaid : Prop := Claim7.holds Tryd.pinned (.plain (OpenSpec.ofChange valueNamesSpec)) valueNamesCard

/-- THE TIED CARD OF 'instarlaw03.ValueOrder'. -/
def valueOrderCard : Claim7 := { stood := { row := valueOrderRow, standIns := [], harness := (true, "36c3687909fe3d9e58e0f631b950e05ec3c5af4131df9ae389fada48fca62d10"), looks := false }, kinds := [], alts := [], laidByText := true, laidKinds := [.data, .data, .data, .data, .pinned], laidTests := true, laidLooks := .later }
def ValueOrderCardSaid : Prop := Claim7.holds Tryd.pinned (.plain (OpenSpec.ofChange valueOrderSpec)) valueOrderCard

/-- THE TIED CARD OF 'instarlaw03.ValueBack'. -/
def valueBackCard : Claim7 := { stood := { row := valueBackRow, standIns := [], harness := (true, "36c3687909fe3d9e58e0f631b950e05ec3c5af4131df9ae389fada48fca62d10"), looks := false }, kinds := [], alts := [], laidByText := true, laidKinds := [.data, .data, .data, .data, .pinned], laidTests := true, laidLooks := .later }
def ValueBackCardSaid : Prop := Claim7.holds Tryd.pinned (.plain (OpenSpec.ofChange valueBackSpec)) valueBackCard

/-- THE SECOND FORM's CARD OF 'instarlaw03.ValueCasts'. -/
def valueCastsUptoCard : Claim7 := { stood := { row := valueCastsUptoRow, standIns := [], harness := (true, "36c3687909fe3d9e58e0f631b950e05ec3c5af4131df9ae389fada48fca62d10"), looks := false }, kinds := [], alts := [], laidByText := true, laidKinds := [.data, .data, .data, .data, .pinned], laidTests := true, laidLooks := .later }
def ValueCastsUptoCardSaid : Prop := Claim7.holds Tryd.pinned (.plain (OpenSpec.upto valueCastsSpec)) valueCastsUptoCard

/-- THE SECOND FORM's CARD OF 'instarlaw03.ValueNames'. -/
def valueNamesUptoCard : Claim7 := { stood := { row := valueNamesUptoRow, standIns := [], harness := (true, "36c3687909fe3d9e58e0f631b950e05ec3c5af4131df9ae389fada48fca62d10"), looks := false }, kinds := [], alts := [], laidByText := true, laidKinds := [.data, .data, .data, .data, .pinned], laidTests := true, laidLooks := .later }
def ValueNamesUptoCardSaid : Prop := Claim7.holds Tryd.pinned (.plain (OpenSpec.upto valueNamesSpec)) valueNamesUptoCard

/-- THE SECOND FORM's CARD OF 'instarlaw03.ValueOrder'. -/
def valueOrderUptoCard : Claim7 := { stood := { row := valueOrderUptoRow, standIns := [], harness := (true, "36c3687909fe3d9e58e0f631b950e05ec3c5af4131df9ae389fada48fca62d10"), looks := false }, kinds := [], alts := [], laidByText := true, laidKinds := [.data, .data, .data, .data, .pinned], laidTests := true, laidLooks := .later }
def ValueOrderUptoCardSaid : Prop := Claim7.holds Tryd.pinned (.plain (OpenSpec.upto valueOrderSpec)) valueOrderUptoCard

/-- THE SECOND FORM's CARD OF 'instarlaw03.ValueBack'. -/
def valueBackUptoCard : Claim7 := { stood := { row := valueBackUptoRow, standIns := [], harness := (true, "36c3687909fe3d9e58e0f631b950e05ec3c5af4131df9ae389fada48fca62d10"), looks := false }, kinds := [], alts := [], laidByText := true, laidKinds := [.data, .data, .data, .data, .pinned], laidTests := true, laidLooks := .later }
def ValueBackUptoCardSaid : Prop := Claim7.holds Tryd.pinned (.plain (OpenSpec.upto valueBackSpec)) valueBackUptoCard
end Rows
end Go.Proofs.YtkhhhhdebdfonaaDoor
