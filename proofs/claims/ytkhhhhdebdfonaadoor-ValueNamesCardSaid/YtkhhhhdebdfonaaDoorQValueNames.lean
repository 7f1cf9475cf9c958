/- The plain statement of the law instar/instarlaw03.ValueNames, and how its arguments are opened. By this session's row.py. -/
import Derived.Test.YtkhhhhdebdfonaaDoorPAx8
import Derived.Test.YtkhhhhdebdfonaaDoorOp
namespace Go.Proofs.YtkhhhhdebdfonaaDoor.QValueNames
open Go Go.RowKit Go.Proofs.YtkhhhhdebdfonaaDoorW.PrintWords Go.Proofs.YtkhhhhdebdfonaaDoor.PA Go.Proofs.YtkhhhhdebdfonaaDoor.Op
set_option linter.unusedVariables false
set_option linter.unusedSimpArgs false

def Pure : Prop := ∀ (a0 : Int) (a1 : ByteArray), (inKind .i64) a0 → reach a1 → ∃ k, instarlaw03_ValueNames.f k a0 a1 = some true
end Go.Proofs.YtkhhhhdebdfonaaDoor.QValueNames
