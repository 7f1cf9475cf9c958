/-
  DERIVED. GIVEN WITH THE SEED: THE CARDS: each row of YtngeelpfbajppaaDoorRows.lean that lists a variable, with what it lists TIED to the program's text (the seventh form; the later family's looks); each row that meets fmt, with fmt's text TOLD by the authors' own Lean function (tested against real Go, not proved from fmt's source: count such statements apart). THE CARD IS WHAT COUNTS. Prove the row's statement (the work); the ties are given (YtngeelpfbajppaaDoorTie.lean); close each card by the builder's one call (the guide's Derived/Test/ToyasCard.lean, 'card_holds'). Laid BY PROGRAM, IN A SANDBOX (cutbox-door.mjs). By AI agents, Wed Nov 11 2026. No macro, syntax, notation, axiom, sorry.
-/
import Derived.Test.YtngeelpfbajppaaDoorRows
import GoSem.ClaimSeven
namespace Go.Proofs.YtngeelpfbajppaaDoor
namespace Rows

/-- THE TIED CARD OF 'instarlaw08.LexWords'. -/
def lexWordsCard : Claim7 := { stood := { row := lexWordsRow, standIns := [], harness := (true, "55c92eca6da9699fccc8f007f3c40d41333532b4ef65a41c0ec2b0b961e7ecaa"), looks := false }, kinds := [], alts := [], laidByText := true, laidKinds := [.data, .data, .data, .data, .pinned], laidTests := true, laidLooks := .later }
def LexWordsCardSaid : Prop := Claim7.holds Tryd.pinned (.plain (OpenSpec.ofChange lexWordsSpec)) lexWordsCard

/-- THE TIED CARD OF 'instarlaw08.LexTexts'. -/
def lexTextsCard : Claim7 := { stood := { row := lexTextsRow, standIns := [], harness := (true, "55c92eca6da9699fccc8f007f3c40d41333532b4ef65a41c0ec2b0b961e7ecaa"), looks := false }, kinds := [], alts := [], laidByText := true, laidKinds := [.data, .data, .data, .data, .pinned], laidTests := true, laidLooks := .later }
def LexTextsCardSaid : Prop := Claim7.holds Tryd.pinned (.plain (OpenSpec.ofChange lexTextsSpec)) lexTextsCard

/-- THE TIED CARD OF 'instarlaw08.LexAgain'. -/
def lexAgainCard : Claim7 := { stood := { row := lexAgainRow, standIns := [], harness := (true, "55c92eca6da9699fccc8f007f3c40d41333532b4ef65a41c0ec2b0b961e7ecaa"), looks := false }, kinds := [], alts := [], laidByText := true, laidKinds := [.data, .data, .data, .data, .pinned], laidTests := true, laidLooks := .later }
def LexAgainCardSaid : Prop := Claim7.holds Tryd.pinned (.plain (OpenSpec.ofChange lexAgainSpec)) lexAgainCard

/-- THE TIED CARD OF 'instarlaw08.LexJoins'. -/
def lexJoinsCard : Claim7 := { stood := { row := lexJoinsRow, standIns := [], harness := (true, "55c92eca6da9699fccc8f007f3c40d41333532b4ef65a41c0ec2b0b961e7ecaa"), looks := false }, kinds := [], alts := [], laidByText := true, laidKinds := [.data, .data, .data, .data, .pinned], laidTests := true, laidLooks := .later }
def LexJoinsCardSaid : Prop := Claim7.holds Tryd.pinned (.plain (OpenSpec.ofChange lexJoinsSpec)) lexJoinsCard

/-- THE SECOND FORM's CARD OF 'instarlaw08.LexWords'. -/
def lexWordsUptoCard : Claim7 := { stood := { row := lexWordsUptoRow, standIns := [], harness := (true, "55c92eca6da9699fccc8f007f3c40d41333532b4ef65a41c0ec2b0b961e7ecaa"), looks := false }, kinds := [], alts := [], laidByText := true, laidKinds := [.data, .data, .data, .data, .pinned], laidTests := true, laidLooks := .later }
def LexWordsUptoCardSaid : Prop := Claim7.holds Tryd.pinned (.plain (OpenSpec.upto lexWordsSpec)) lexWordsUptoCard

/-- THE SECOND FORM's CARD OF 'instarlaw08.LexTexts'. -/
def lexTextsUptoCard : Claim7 := { stood := { row := lexTextsUptoRow, standIns := [], harness := (true, "55c92eca6da9699fccc8f007f3c40d41333532b4ef65a41c0ec2b0b961e7ecaa"), looks := false }, kinds := [], alts := [], laidByText := true, laidKinds := [.data, .data, .data, .data, .pinned], laidTests := true, laidLooks := .later }
def LexTextsUptoCardSaid : Prop := Claim7.holds Tryd.pinned (.plain (OpenSpec.upto lexTextsSpec)) lexTextsUptoCard

/-- THE SECOND FORM's CARD OF 'instarlaw08.LexAgain'. -/
def lexAgainUptoCard : Claim7 := { stood := { row := lexAgainUptoRow, standIns := [], harness := (true, "55c92eca6da9699fccc8f007f3c40d41333532b4ef65a41c0ec2b0b961e7ecaa"), looks := false }, kinds := [], alts := [], laidByText := true, laidKinds := [.data, .data, .data, .data, .pinned], laidTests := true, laidLooks := .later }
def LexAgainUptoCardSaid : Prop := Claim7.holds Tryd.pinned (.plain (OpenSpec.upto lexAgainSpec)) lexAgainUptoCard

/-- THE SECOND FORM's CARD OF 'instarlaw08.LexJoins'. -/
def lexJoinsUptoCard : Claim7 := { stood := { row := lexJoinsUptoRow, standIns := [], harness := (true, "55c92eca6da9699fccc8f007f3c40d41333532b4ef65a41c0ec2b0b961e7ecaa"), looks := false }, kinds := [], alts := [], laidByText := true, laidKinds := [.data, .data, .data, .data, .pinned], laidTests := true, laidLooks := .later }
def LexJoinsUptoCardSaid : Prop := Claim7.holds Tryd.pinned (.plain (OpenSpec.upto lexJoinsSpec)) lexJoinsUptoCard
end Rows
end Go.Proofs.YtngeelpfbajppaaDoor
