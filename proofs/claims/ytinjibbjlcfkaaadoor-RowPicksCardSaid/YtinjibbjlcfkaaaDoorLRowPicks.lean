/- The plain side of RowPicks. -/
import Derived.Test.YtinjibbjlcfkaaaDoorQRowPicks
import Derived.Test.YtinjibbjlcfkaaaDoorRr
import Derived.Test.YtinjibbjlcfkaaaDoorPCx6
import Derived.Test.YtinjibbjlcfkaaaDoorPCx7
import Derived.Test.YtinjibbjlcfkaaaDoorPCx8
namespace Go.Proofs.YtinjibbjlcfkaaaDoor.LRowPicks
open Go Go.RowKit Go.Proofs.YtinjibbjlcfkaaaDoorW.PrintWords Go.Proofs.YtinjibbjlcfkaaaDoor.PC Go.Proofs.YtinjibbjlcfkaaaDoor.Op Go.Proofs.YtinjibbjlcfkaaaDoor.Rk
set_option linter.unusedVariables false
set_option linter.unusedSimpArgs false
theorem rpick_l (l : List S35) (at_ : List Int) (hl : at_.length ≤ 1000) : ∀ n i, n = at_.length - i → i ≤ at_.length → (∀ j, j < i → ∀ h : j < at_.length, 0 ≤ at_[j] ∧ at_[j] < (l.length : Int)) →
    Evr (fun k => instarref05_Pick.l0 k l at_ ((at_.take i).map (rd_T35 l)) (i : Int)) (pickS l at_)
  | n, i, hn, hi, hh => by
    refine Evr.succ ?_
    simp only [instarref05_Pick.l0]
    by_cases c : i < at_.length
    · refine Evr.pos (by omega) (Evr.pos (by omega) ?_)
      rw [rd_int c]
      by_cases c1 : at_[i] < 0
      · refine Evr.pos c1 (Evr.const ?_)
        rw [pickS, if_neg (fun h => by have := h at_[i] (List.getElem_mem _); omega)]
      · refine Evr.neg c1 ?_
        by_cases c2 : at_[i] ≥ (l.length : Int)
        · refine Evr.pos c2 (Evr.const ?_)
          rw [pickS, if_neg (fun h => by have := h at_[i] (List.getElem_mem _); omega)]
        · refine Evr.neg c2 (Evr.pos (by omega) (Evr.pos (by omega) (Evr.pos (by simp only [List.length_map, List.length_take]; omega) ?_)))
          rw [wrap_nat (by omega)]
          have h := rpick_l l at_ hl (at_.length - (i + 1)) (i + 1) rfl c (fun j hj h => by
            by_cases e : j = i
            · subst e; omega
            · exact hh j (by omega) h)
          rw [List.take_succ_eq_append_getElem c, List.map_append] at h
          exact h
    · have e : i = at_.length := by omega
      refine Evr.neg (by omega) (Evr.const ?_)
      rw [pickS, if_pos (fun x hx => by
        obtain ⟨j, hj, rfl⟩ := List.getElem_of_mem hx
        exact hh j (by omega) hj), e, List.take_length]
  termination_by n => n
theorem rpick_ev (l : List S35) (at_ : List Int) (hl : at_.length ≤ 1000) : Evr (fun k => instarref05_Pick.f k l at_) (pickS l at_) := by
  unfold instarref05_Pick.f
  have h := rpick_l l at_ hl _ 0 rfl (Nat.zero_le _) (fun j hj => by omega)
  simpa using h
theorem rdL_get {l : List (List S35)} {i : Nat} (h : i < l.length) : rd_L4 l (i : Int) = l[i] := by simp [rd_L4, h]
theorem flat_le {l : List (List S35)} (hl : ∀ r ∈ l, r.length ≤ 30) : ∀ i, i ≤ l.length → (l.take i).flatten.length ≤ i * 30
  | 0, _ => by simp
  | i + 1, h => by
    have := flat_le hl i (by omega)
    rw [List.take_succ_eq_append_getElem (show i < l.length by omega), List.flatten_append, List.length_append, List.flatten_singleton]
    have := hl l[i] (List.getElem_mem _)
    omega
theorem rjoin_l (l : List (List S35)) (hl : l.length ≤ 30) (hr : ∀ r ∈ l, r.length ≤ 30) : ∀ n i, n = l.length - i → i ≤ l.length → Evr (fun k => instarref05_Join.l0 k l (l.take i).flatten (i : Int)) l.flatten
  | n, i, hn, hi => by
    refine Evr.succ ?_
    simp only [instarref05_Join.l0]
    by_cases c : i < l.length
    · have h1 := flat_le hr i hi
      have h2 := hr l[i] (List.getElem_mem _)
      rw [rdL_get c]
      refine Evr.pos (by omega) (Evr.pos (by omega) (Evr.pos (by omega) ?_))
      rw [wrap_nat (by omega)]
      have h := rjoin_l l hl hr (l.length - (i + 1)) (i + 1) rfl c
      rw [List.take_succ_eq_append_getElem c, List.flatten_append, List.flatten_singleton] at h
      exact h
    · have e : i = l.length := by omega
      refine Evr.neg (by omega) (Evr.const ?_)
      rw [e, List.take_length]
  termination_by n => n
theorem pickS_len (l : List S35) (at_ : List Int) : (pickS l at_).1.length ≤ at_.length := by
  unfold pickS
  split <;> simp
section
variable (l : List (List S35)) (at_ : List Int)
theorem back (i : Nat) (hi : i < l.length) (hr : l[i].length ≤ 30) (hn : Evr (fun k => instarlaw05_RowPicks.l0 k l at_ ((i + 1 : Nat) : Int)) true) (h30 : l.length ≤ 30) : ∀ n j (x : List S35), n = x.length - j → j ≤ x.length → x.length ≤ 1000 →
    Evr (fun k => instarlaw05_RowPicks.l1 k l at_ (i : Int) x l[i] (j : Int)) true
  | n, j, x, hn', hj, hx => by
    refine Evr.succ ?_
    simp only [instarlaw05_RowPicks.l1]
    by_cases c : j < x.length
    · refine Evr.pos (by omega) (Evr.pos (by omega) ?_)
      rw [wrap_nat (by omega)]
      refine back i hi hr hn h30 (x.length - (j + 1)) (j + 1) _ ?_ ?_ ?_
      · rw [List.length_set]
      · rw [List.length_set]; exact c
      · rw [List.length_set]; exact hx
    · refine Evr.neg (by omega) (Evr.pos (by omega) (Evr.pos (by omega) ?_))
      rw [rdL_get hi]
      refine Evr.bind (rsame_refl _ (by omega)) (Evr.pos rfl ?_)
      rw [wrap_nat (by omega)]
      exact hn
  termination_by n => n
theorem loop (hl : l.length ≤ 30) (ha : at_.length ≤ 30) (hb : ∀ r ∈ l, ∀ y ∈ r, y.f2.size ≤ 140737488351232) : ∀ n i, n = l.length - i → i ≤ l.length → (∀ r ∈ l.take i, r.length ≤ 30) → Evr (fun k => instarlaw05_RowPicks.l0 k l at_ (i : Int)) true
  | n, i, hn, hi, hr => by
    refine Evr.succ ?_
    simp only [instarlaw05_RowPicks.l0]
    by_cases c : i < l.length
    · refine Evr.pos (by omega) (Evr.pos (by omega) ?_)
      rw [rdL_get c]
      obtain ⟨s, hs, gs⟩ := small_ev (l := l[i]) (hb _ (List.getElem_mem _))
      refine Evr.bind hs ?_
      cases s with
      | false => exact Evr.neg (by simp) (Evr.bind alive_ev (Evr.const rfl))
      | true =>
        have h30 := (gs rfl).1
        refine Evr.pos rfl (Evr.bind (pick_ev _ _ (by omega)) (Evr.bind (rpick_ev _ _ (by omega)) (Evr.bind (rsame_refl _ ?_) (Evr.pos rfl ?_))))
        · have := pickS_len l[i] at_
          omega
        · rw [bne_self_eq_false]
          refine Evr.succ ?_
          simp only [instarlaw05_RowPicks.j2]
          refine Evr.neg (by simp) (Evr.bindc rfl ?_)
          rw [rdL_get c]
          refine Evr.pos (by omega) (Evr.pos (by omega) (Evr.pos (by simp; omega) ?_))
          have hp := pickS_len l[i] at_
          have h := back l at_ i c h30 (loop hl ha hb (l.length - (i + 1)) (i + 1) rfl c (fun r h => by
            rw [List.take_succ_eq_append_getElem c, List.mem_append, List.mem_singleton] at h
            rcases h with h | rfl
            · exact hr r h
            · exact h30)) hl _ 0 (pickS l[i] at_).1 rfl (Nat.zero_le _) (by omega)
          simpa using h
    · have e : i = l.length := by omega
      subst e
      rw [List.take_length] at hr
      have h1 := flat_le hr l.length (Nat.le_refl _)
      rw [List.take_length] at h1
      have hj : row_Join.f l = some l.flatten := by
        unfold row_Join.f
        rw [if_pos (by omega)]
      refine Evr.neg (by omega) (Evr.bind alive_ev (Evr.pos rfl (Evr.bindc hj (Evr.bind ?_ (Evr.bind (rsame_refl l.flatten (by omega)) (Evr.const rfl))))))
      have h := rjoin_l l hl hr _ 0 rfl (Nat.zero_le _)
      simpa [instarref05_Join.f] using h
  termination_by n => n
end
theorem pure : QRowPicks.Pure := by
  intro l at_ hl ha
  refine Evr.ex ?_
  have out : Evr (fun k => instarlaw05_RowPicks.j0 k l at_ true) true := by
    refine Evr.succ ?_
    simp only [instarlaw05_RowPicks.j0]
    exact Evr.pos (by simp) (Evr.bind alive_ev (Evr.const rfl))
  unfold instarlaw05_RowPicks.f
  by_cases c : l.length ≤ 30
  · refine Evr.neg (by omega) ?_
    by_cases c2 : at_.length ≤ 30
    · rw [decide_eq_false (by omega)]
      refine Evr.succ ?_
      simp only [instarlaw05_RowPicks.j0]
      refine Evr.neg (by simp) ?_
      exact loop l at_ c c2 (fun r hr y hy => ((hl.2 r hr).2 y hy).2.2) _ 0 rfl (Nat.zero_le _) (by simp)
    · rw [decide_eq_true (by omega)]
      exact out
  · exact Evr.pos (by omega) out
end Go.Proofs.YtinjibbjlcfkaaaDoor.LRowPicks
