/- The plain side of ValueOrder: value.Compare is an order. -/
import Derived.Test.YtkhhhhdebdfonaaDoorQValueOrder
import Derived.Test.YtkhhhhdebdfonaaDoorVp
import Derived.Test.YtkhhhhdebdfonaaDoorVo
namespace Go.Proofs.YtkhhhhdebdfonaaDoor.LValueOrder
open Go Go.RowKit Go.Proofs.YtkhhhhdebdfonaaDoorW.PrintWords Go.Proofs.YtkhhhhdebdfonaaDoor.PA Go.Proofs.YtkhhhhdebdfonaaDoor.Op Go.Proofs.YtkhhhhdebdfonaaDoor.Vp Go.Proofs.YtkhhhhdebdfonaaDoor.Vo
theorem pure : QValueOrder.Pure := by
  intro K N S K1 N1 S1 K2 N2 S2 _ _ _
  refine ⟨100, ?_⟩
  have hj : ∀ b : Bool, instarlaw03_ValueOrder.j0 100 b K N S K1 N1 S1 K2 N2 S2 = some true := by
    intro b
    cases b with
    | true => simp only [instarlaw03_ValueOrder.j0, if_true, alive_true 99 (by omega), Option.bind_some]
    | false =>
      simp only [instarlaw03_ValueOrder.j0, if_neg (show ¬ (false = true) by decide), alive_true 99 (by omega), Option.bind_some, compare_eq _ _ _ _ _ _ 95, if_true]
      have hs := cmpV_swap K N S K1 N1 S1
      have hr := cmpV_range K N S K1 N1 S1
      have hz := cmpV_zero K N S K1 N1 S1
      have ht := @cmpV_trans K N K1 N1 K2 N2 S S1 S2
      generalize cmpV K N S K1 N1 S1 = x at *
      generalize cmpV K1 N1 S1 K N S = x' at *
      generalize cmpV K1 N1 S1 K2 N2 S2 = y at *
      generalize cmpV K N S K2 N2 S2 = z at *
      have he : ((x == 0) == (K == K1 && (N == N1 && (S.toList == S1.toList)))) = true := by
        rw [beq_iff_eq, Bool.eq_iff_iff]; simp [hz]
      have hx : x' = wrap64 (-x) := by unfold wrap64; omega
      have hq : decide (wrap64 (x * x) ≤ 1) = true := by
        rcases hr with rfl | rfl | rfl <;> decide +kernel
      rw [if_pos he, hx, if_pos rfl, hq]
      repeat' split
      all_goals first | rfl | omega
  unfold instarlaw03_ValueOrder.f
  repeat' split
  all_goals exact hj _
end Go.Proofs.YtkhhhhdebdfonaaDoor.LValueOrder
