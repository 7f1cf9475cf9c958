/- The plain statement of the law instar/instarlaw05.RowOrder, and how its arguments are opened. By this session's row.py. -/
import Derived.Test.YtinjibbjlcfkaaaDoorPDx7
import Derived.Test.YtinjibbjlcfkaaaDoorOp
namespace Go.Proofs.YtinjibbjlcfkaaaDoor.QRowOrder
open Go Go.RowKit Go.Proofs.YtinjibbjlcfkaaaDoorW.PrintWords Go.Proofs.YtinjibbjlcfkaaaDoor.PD Go.Proofs.YtinjibbjlcfkaaaDoor.Op
set_option linter.unusedVariables false
set_option linter.unusedSimpArgs false
def bd35 (y : S35) : Prop := (inKind .i64) y.f0 ∧ (inKind .i64) y.f1 ∧ reach y.f2
theorem op35 : Opens Tryd.prog k35 35 bd35 :=
  Opens.struct (l := [(33, 0), (2, 1), (9, 2)]) (fun p => (⟨p.1, p.2.1, p.2.2⟩ : S35)) (fun _ => rfl) Tryd.underlying35 (by kernel_rfl) (by rfl) (OpensFs.cons (Opens.int .i64 Tryd.underlying33 (by kernel_rfl)) (OpensFs.cons (Opens.int .i64 Tryd.underlying2 (by kernel_rfl)) (OpensFs.one (Opens.string Tryd.underlying9 (by kernel_rfl)))))
def Pure : Prop := ∀ (l0 : List (S35)) (l1 : List (S35)), (All 32 bd35) l0 → (All 32 bd35) l1 → ∃ k, instarlaw05_RowOrder.f k l0 l1 = some true
end Go.Proofs.YtinjibbjlcfkaaaDoor.QRowOrder
