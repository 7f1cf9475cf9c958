/- The document's sameness of rows. -/
import Derived.Test.YtinjibbjlcfkaaaDoorRk
import Derived.Test.YtinjibbjlcfkaaaDoorPCx7
namespace Go.Proofs.YtinjibbjlcfkaaaDoor.Rk
open Go Go.RowKit Go.Proofs.YtinjibbjlcfkaaaDoorW.PrintWords Go.Proofs.YtinjibbjlcfkaaaDoor.PC
set_option linter.unusedVariables false
set_option linter.unusedSimpArgs false
theorem rsame_l (l : List S35) (hl : l.length < 9223372036854775807) : ∀ n i, n = l.length - i → i ≤ l.length → Evr (fun k => instarref04_Same.l0 k l l (i : Int)) true
  | n, i, hn, hi => by
    refine Evr.succ ?_
    simp only [instarref04_Same.l0]
    by_cases c : i < l.length
    · refine Evr.pos (by omega) (Evr.pos (by omega) (Evr.pos (by omega) (Evr.neg (by simp) ?_)))
      rw [wrap_nat (by omega)]
      exact rsame_l l hl (l.length - (i + 1)) (i + 1) rfl c
    · exact Evr.neg (by omega) (Evr.const rfl)
  termination_by n => n
theorem rsame_refl (l : List S35) (hl : l.length < 9223372036854775807) : Evr (fun k => instarref05_Same.f k l l) true := by
  unfold instarref05_Same.f instarref04_Same.f
  exact Evr.bind (Evr.pos rfl (rsame_l l hl _ 0 rfl (Nat.zero_le _))) (Evr.const rfl)
end Go.Proofs.YtinjibbjlcfkaaaDoor.Rk
