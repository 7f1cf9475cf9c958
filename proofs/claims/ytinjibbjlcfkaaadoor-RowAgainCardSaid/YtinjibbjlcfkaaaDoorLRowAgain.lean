/- The plain side of RowAgain. -/
import Derived.Test.YtinjibbjlcfkaaaDoorQRowAgain
import Derived.Test.YtinjibbjlcfkaaaDoorRk
import Derived.Test.YtinjibbjlcfkaaaDoorPBx6
import Derived.Test.YtinjibbjlcfkaaaDoorPBx7
namespace Go.Proofs.YtinjibbjlcfkaaaDoor.LRowAgain
open Go Go.RowKit Go.Proofs.YtinjibbjlcfkaaaDoorW.PrintWords Go.Proofs.YtinjibbjlcfkaaaDoor.PB Go.Proofs.YtinjibbjlcfkaaaDoor.Op Go.Proofs.YtinjibbjlcfkaaaDoor.Rk
set_option linter.unusedVariables false
set_option linter.unusedSimpArgs false
def ones (a : List S35) (i : Nat) : List Int := (List.range (min i a.length)).map fun j : Nat => (j : Int)
def twos (a : List S35) (i : Nat) : List Int := (List.range (i - a.length)).map fun j : Nat => ((a.length + j : Nat) : Int)
theorem ones_pick (a b : List S35) (i : Nat) (hi : a.length ≤ i) : pickS (a ++ b) (ones a i) = (a, 0) := by
  rw [pickS, if_pos]
  · congr 1
    rw [ones, Nat.min_eq_right hi]
    apply List.ext_getElem
    · simp
    · intro j h1 h2
      simp only [List.map_map, List.getElem_map, Function.comp_apply, List.getElem_range]
      rw [rd_get (by simp; omega)]
      exact List.getElem_append_left h2
  · intro x hx
    simp only [ones, List.mem_map, List.mem_range] at hx
    obtain ⟨j, hj, rfl⟩ := hx
    simp only [List.length_append]
    omega
theorem twos_pick (a b : List S35) : pickS (a ++ b) (twos a (a.length + b.length)) = (b, 0) := by
  rw [pickS, if_pos]
  · congr 1
    rw [twos, Nat.add_sub_cancel_left]
    apply List.ext_getElem
    · simp
    · intro j h1 h2
      simp only [List.map_map, List.getElem_map, Function.comp_apply, List.getElem_range]
      rw [rd_get (by simp; omega)]
      rw [List.getElem_append_right (by omega)]
      congr 1
      omega
  · intro x hx
    simp only [twos, List.mem_map, List.mem_range] at hx
    obtain ⟨j, hj, rfl⟩ := hx
    simp only [List.length_append]
    omega
theorem loop (a b : List S35) (ha : a.length ≤ 30) (hb : b.length ≤ 30) : ∀ n i, n = a.length + b.length - i → i ≤ a.length + b.length →
    Evr (fun k => instarlaw05_RowAgain.l0 k a b (ones a i) (twos a i) (i : Int)) true
  | n, i, hn, hi => by
    refine Evr.succ ?_
    simp only [instarlaw05_RowAgain.l0]
    have ew : wrap64 ((a.length : Int) + (b.length : Int)) = ((a.length + b.length : Nat) : Int) := by rw [wrap_eq (by omega) (by omega)]; omega
    rw [ew]
    by_cases c : i < a.length + b.length
    · refine Evr.pos (by omega) ?_
      have h := loop a b ha hb (a.length + b.length - (i + 1)) (i + 1) rfl c
      by_cases c1 : i < a.length
      · refine Evr.pos (by omega) (Evr.pos (by simp only [ones, List.length_map, List.length_range]; omega) ?_)
        rw [wrap_nat (by omega)]
        have e1 : ones a (i + 1) = ones a i ++ [(i : Int)] := by
          simp only [ones]
          rw [Nat.min_eq_left (by omega), Nat.min_eq_left (by omega), List.range_succ, List.map_append]
          rfl
        have e2 : twos a (i + 1) = twos a i := by
          simp only [twos]
          rw [show i + 1 - a.length = 0 by omega, show i - a.length = 0 by omega]
        rw [e1, e2] at h
        exact h
      · refine Evr.neg (by omega) (Evr.pos (by simp only [twos, List.length_map, List.length_range]; omega) ?_)
        rw [wrap_nat (by omega)]
        have e1 : ones a (i + 1) = ones a i := by
          simp only [ones]
          rw [Nat.min_eq_right (by omega), Nat.min_eq_right (by omega)]
        have e2 : twos a (i + 1) = twos a i ++ [(i : Int)] := by
          simp only [twos]
          rw [show i + 1 - a.length = (i - a.length) + 1 by omega, List.range_succ, List.map_append]
          congr 1
          simp only [List.map_cons, List.map_nil]
          congr 1
          omega
        rw [e1, e2] at h
        exact h
    · have e : i = a.length + b.length := by omega
      subst e
      refine Evr.neg (by omega) ?_
      have hj : row_Join.f [a, b] = some (a ++ b) := by
        unfold row_Join.f
        rw [if_pos (by simp; omega)]
        simp
      refine Evr.bindc hj ?_
      have p1 := pick_ev (a ++ b) (ones a (a.length + b.length)) (by simp only [ones, List.length_map, List.length_range]; omega)
      have p2 := pick_ev (a ++ b) (twos a (a.length + b.length)) (by simp only [twos, List.length_map, List.length_range]; omega)
      have p3 := pick_ev (a ++ b) [((a.length + b.length : Nat) : Int)] (by simp)
      rw [ones_pick a b _ (by omega)] at p1
      rw [twos_pick] at p2
      have e3 : pickS (a ++ b) [((a.length + b.length : Nat) : Int)] = ([], 51) := by
        rw [pickS, if_neg]
        intro h
        have := (h _ (List.mem_singleton.2 rfl)).2
        simp only [List.length_append] at this
        omega
      rw [e3] at p3
      refine Evr.bind p1 (Evr.bind p2 (Evr.bind p3 (Evr.bind alive_ev (Evr.pos rfl (Evr.pos (by simp) (Evr.pos rfl (Evr.pos rfl (Evr.pos rfl ?_))))))))
      exact Evr.bind (same_refl a (by omega)) (Evr.pos rfl (Evr.bind (same_refl b (by omega)) (Evr.const rfl)))
  termination_by n => n
theorem pure : QRowAgain.Pure := by
  intro a b ha hb
  refine Evr.ex ?_
  obtain ⟨s1, h1, g1⟩ := small_ev (l := a) (fun y hy => (ha.2 y hy).2.2)
  obtain ⟨s2, h2, g2⟩ := small_ev (l := b) (fun y hy => (hb.2 y hy).2.2)
  unfold instarlaw05_RowAgain.f
  refine Evr.bind h1 (Evr.bind h2 ?_)
  have out : Evr (fun k => instarlaw05_RowAgain.j0 k a b true) true := by
    refine Evr.succ ?_
    simp only [instarlaw05_RowAgain.j0]
    exact Evr.pos (by simp) (Evr.bind alive_ev (Evr.const rfl))
  cases s1 with
  | false => exact Evr.neg (by simp) out
  | true =>
    refine Evr.pos (by simp) ?_
    cases s2 with
    | false => exact out
    | true =>
      refine Evr.succ ?_
      simp only [instarlaw05_RowAgain.j0]
      refine Evr.neg (by simp) ?_
      have h := loop a b (g1 rfl).1 (g2 rfl).1 _ 0 rfl (Nat.zero_le _)
      simpa [ones, twos] using h
end Go.Proofs.YtinjibbjlcfkaaaDoor.LRowAgain
