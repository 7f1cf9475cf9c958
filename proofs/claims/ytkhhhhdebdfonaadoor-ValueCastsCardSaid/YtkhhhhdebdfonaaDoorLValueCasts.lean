/- The plain side of ValueCasts: what a value is, cast, and which kind is wider, are as the reference says. -/
import Derived.Test.YtkhhhhdebdfonaaDoorQValueCasts
import Derived.Test.YtkhhhhdebdfonaaDoorVp
namespace Go.Proofs.YtkhhhhdebdfonaaDoor.LValueCasts
open Go Go.RowKit Go.Proofs.YtkhhhhdebdfonaaDoorW.PrintWords Go.Proofs.YtkhhhhdebdfonaaDoor.PA Go.Proofs.YtkhhhhdebdfonaaDoor.Op Go.Proofs.YtkhhhhdebdfonaaDoor.Vp
theorem pure : QValueCasts.Pure := by
  intro K N S k _ _
  refine ⟨16, ?_⟩
  unfold instarlaw03_ValueCasts.f
  rw [alive_true 16 (by omega), cast_eq K N S k 13, refCast_eq K N S k 12, wider_eq k K 15, refWider_eq]
  simp
end Go.Proofs.YtkhhhhdebdfonaaDoor.LValueCasts
