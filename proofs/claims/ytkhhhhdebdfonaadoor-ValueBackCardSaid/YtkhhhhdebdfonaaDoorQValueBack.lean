/- The plain statement of the law instar/instarlaw03.ValueBack, and how its arguments are opened. By this session's row.py. -/
import Derived.Test.YtkhhhhdebdfonaaDoorPAx11
import Derived.Test.YtkhhhhdebdfonaaDoorOp
namespace Go.Proofs.YtkhhhhdebdfonaaDoor.QValueBack
open Go Go.RowKit Go.Proofs.YtkhhhhdebdfonaaDoorW.PrintWords Go.Proofs.YtkhhhhdebdfonaaDoor.PA Go.Proofs.YtkhhhhdebdfonaaDoor.Op
set_option linter.unusedVariables false
set_option linter.unusedSimpArgs false
def bd24 (y : S24) : Prop := (inKind .i64) y.f0 ∧ (inKind .i64) y.f1 ∧ reach y.f2
theorem op24 : Opens Tryd.prog k24 24 bd24 :=
  Opens.struct (l := [(22, 0), (2, 1), (9, 2)]) (fun p => (⟨p.1, p.2.1, p.2.2⟩ : S24)) (fun _ => rfl) Tryd.underlying24 (by kernel_rfl) (by rfl) (OpensFs.cons (Opens.int .i64 Tryd.underlying22 (by kernel_rfl)) (OpensFs.cons (Opens.int .i64 Tryd.underlying2 (by kernel_rfl)) (OpensFs.one (Opens.string Tryd.underlying9 (by kernel_rfl)))))
def Pure : Prop := ∀ (a0_0 : Int) (a0_1 : Int) (a0_2 : ByteArray) (a1_0 : Int) (a1_1 : Int) (a1_2 : ByteArray) (a2 : Int), bd24 (⟨a0_0, a0_1, a0_2⟩ : S24) → bd24 (⟨a1_0, a1_1, a1_2⟩ : S24) → (inKind .i64) a2 → ∃ k, instarlaw03_ValueBack.f k a0_0 a0_1 a0_2 a1_0 a1_1 a1_2 a2 = some true
end Go.Proofs.YtkhhhhdebdfonaaDoor.QValueBack
