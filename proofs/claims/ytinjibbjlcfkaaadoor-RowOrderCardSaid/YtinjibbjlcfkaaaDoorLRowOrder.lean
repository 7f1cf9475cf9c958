/- The plain side of RowOrder. -/
import Derived.Test.YtinjibbjlcfkaaaDoorQRowOrder
import Derived.Test.YtinjibbjlcfkaaaDoorKk
import Derived.Test.YtinjibbjlcfkaaaDoorPDx2
import Derived.Test.YtinjibbjlcfkaaaDoorPDx7
namespace Go.Proofs.YtinjibbjlcfkaaaDoor.LRowOrder
open Go Go.RowKit Go.Proofs.YtinjibbjlcfkaaaDoorW.PrintWords Go.Proofs.YtinjibbjlcfkaaaDoor.PD Go.Proofs.YtinjibbjlcfkaaaDoor.Op Go.Proofs.YtinjibbjlcfkaaaDoor.Rk Go.Proofs.YtinjibbjlcfkaaaDoor.Vo Go.Proofs.YtinjibbjlcfkaaaDoor.Ro Go.Proofs.YtinjibbjlcfkaaaDoor.Ko Go.Proofs.YtinjibbjlcfkaaaDoor.Ke Go.Proofs.YtinjibbjlcfkaaaDoor.Kk
set_option linter.unusedVariables false
set_option linter.unusedSimpArgs false
theorem right_tot (K N : Int) (S : ByteArray) : ∃ b, value_Right.f K N S = some b := by
  cases h : value_Right.f K N S with
  | some b => exact ⟨b, rfl⟩
  | none =>
    exfalso
    revert h
    unfold value_Right.f value_room.f num_Narrow.f
    repeat' split
    all_goals simp
theorem right_l (l : List S35) (hl : l.length < 9223372036854775807) : ∀ n i, n = l.length - i → i ≤ l.length → (∀ j, j < i → ∀ h : j < l.length, value_Right.f l[j].f0 l[j].f1 l[j].f2 = some true) →
    ∃ r : Int, Evr (fun k => api_Value_42_row_Right_1.l0 k l (l.length : Int) (i : Int)) r ∧ (¬ r ≥ 0 → ∀ v ∈ l, value_Right.f v.f0 v.f1 v.f2 = some true)
  | n, i, hn, hi, hh => by
    by_cases c : i < l.length
    · obtain ⟨b, hb⟩ := right_tot l[i].f0 l[i].f1 l[i].f2
      have h1 : row_Right_1.f l[i].f0 l[i].f1 l[i].f2 = some (!b) := by unfold row_Right_1.f; rw [hb]; rfl
      cases b with
      | false =>
        refine ⟨(i : Int), Evr.succ ?_, fun h => absurd (by omega) h⟩
        simp only [api_Value_42_row_Right_1.l0]
        rw [rd_get c]
        exact Evr.pos (by omega) (Evr.pos (by omega) (Evr.pos (by omega) (Evr.bindc h1 (Evr.pos rfl (Evr.const rfl)))))
      | true =>
        obtain ⟨r, he, hr⟩ := right_l l hl (l.length - (i + 1)) (i + 1) rfl c (fun j hj h => by
          by_cases e : j = i
          · subst e; exact hb
          · exact hh j (by omega) h)
        refine ⟨r, Evr.succ ?_, hr⟩
        simp only [api_Value_42_row_Right_1.l0]
        rw [rd_get c]
        refine Evr.pos (by omega) (Evr.pos (by omega) (Evr.pos (by omega) (Evr.bindc h1 (Evr.neg (by simp) ?_))))
        rw [wrap_nat (by omega)]
        exact he
    · refine ⟨-1, Evr.succ ?_, fun _ v hv => ?_⟩
      · simp only [api_Value_42_row_Right_1.l0]
        exact Evr.neg (by omega) (Evr.const rfl)
      · obtain ⟨j, hj, rfl⟩ := List.getElem_of_mem hv
        exact hh j (by omega) hj
  termination_by n => n
theorem right_ev (l : List S35) (hl : l.length < 9223372036854775807) : ∃ b, Evr (fun k => row_Right.f k l) b ∧ (b = true → l.length ≤ 24 ∧ ∀ v ∈ l, value_Right.f v.f0 v.f1 v.f2 = some true) := by
  unfold row_Right.f
  by_cases c : (l.length : Int) ≤ 24
  · obtain ⟨r, h1, h2⟩ := right_l l hl _ 0 rfl (Nat.zero_le _) (fun j hj => by omega)
    refine ⟨!decide (r ≥ 0), Evr.pos c (Evr.bind (v := decide (r ≥ 0)) ?_ (Evr.const rfl)), fun h => ⟨by omega, h2 (by simpa using h)⟩⟩
    unfold api_Value_26_row_Right_1.f api_Value_42_row_Right_1.f
    exact Evr.bind (by simpa using h1) (Evr.const rfl)
  · exact ⟨false, Evr.neg c (Evr.const rfl), by simp⟩
theorem key_ev {l : List S35} (hR : Evr (fun k => row_Right.f k l) true) (h : ∀ v ∈ l, value_Right.f v.f0 v.f1 v.f2 = some true ∧ I64 v.f1) (hl : l.length ≤ 24) : ∃ X, Evr (fun k => row_Key.f k l) X ∧ X.toList = E l := by
  obtain ⟨X, h1, h2⟩ := enc_l l ⟨#[]⟩ h (by have : (⟨#[]⟩ : ByteArray).size = 0 := rfl; omega)
  refine ⟨X, ?_, by rw [ByteArray.toList_eq, h2]; rfl⟩
  unfold row_Key.f
  exact Evr.bind hR (Evr.pos rfl (Evr.bindc (v := (X, 0)) h1 (Evr.const rfl)))
theorem pure : QRowOrder.Pure := by
  intro a b ha hb
  refine Evr.ex ?_
  have la : a.length < 9223372036854775807 := by have := ha.1; omega
  have lb : b.length < 9223372036854775807 := by have := hb.1; omega
  obtain ⟨s1, h1, g1⟩ := small_ev (l := a) (fun y hy => (ha.2 y hy).2.2)
  obtain ⟨s2, h2, g2⟩ := small_ev (l := b) (fun y hy => (hb.2 y hy).2.2)
  obtain ⟨t1, h3, g3⟩ := right_ev a la
  obtain ⟨t2, h4, g4⟩ := right_ev b lb
  have out : Evr (fun k => instarlaw05_RowOrder.j0 k a b true) true := by
    refine Evr.succ ?_
    simp only [instarlaw05_RowOrder.j0]
    exact Evr.pos (by simp) (Evr.bind alive_ev (Evr.const rfl))
  unfold instarlaw05_RowOrder.f
  refine Evr.bind h1 (Evr.bind h2 ?_)
  cases s1 with
  | false => exact Evr.neg (by simp) out
  | true =>
  refine Evr.pos (by simp) ?_
  cases s2 with
  | false => exact Evr.neg (by simp) out
  | true =>
  refine Evr.pos (by simp) (Evr.bind h3 ?_)
  cases t1 with
  | false => exact Evr.neg (by simp) out
  | true =>
  refine Evr.pos (by simp) (Evr.bind h4 ?_)
  cases t2 with
  | false => exact out
  | true =>
  have i64 : ∀ {l : List S35}, (All 32 QRowOrder.bd35) l → ∀ v ∈ l, I64 v.f1 := fun h v hv => inKind_i64 (h.2 v hv).2.1
  obtain ⟨a1, a2⟩ := g3 rfl
  obtain ⟨b1, b2⟩ := g4 rfl
  obtain ⟨X, x1, x2⟩ := key_ev h3 (fun v hv => ⟨a2 v hv, i64 ha v hv⟩) a1
  obtain ⟨Y, y1, y2⟩ := key_ev h4 (fun v hv => ⟨b2 v hv, i64 hb v hv⟩) b1
  have ra : ∀ v ∈ a, RightV v ∧ I64 v.f1 := fun v hv => ⟨right_v (a2 v hv), i64 ha v hv⟩
  have rb : ∀ v ∈ b, RightV v ∧ I64 v.f1 := fun v hv => ⟨right_v (b2 v hv), i64 hb v hv⟩
  have k1 := key_less a b ra rb
  have k2 := key_eq a b ra rb
  have hs := cmpL_swap a b
  have hr := cmpL_range a b
  refine Evr.succ ?_
  simp only [instarlaw05_RowOrder.j0]
  refine Evr.neg (by simp) (Evr.bind (comp_ev a b la) (Evr.bind x1 (Evr.bind y1 (Evr.bind alive_ev (Evr.pos rfl (Evr.pos ?_ (Evr.pos ?_ (Evr.bind (comp_ev b a lb) (Evr.pos ?_ (Evr.bind (same_ev a b la) (Evr.pos (by simp) ?_)))))))))))
  · rw [x2, y2, k1]; simp
  · rw [x2, y2, beq_iff_eq, Bool.eq_iff_iff]; simp [k2]
  · rw [hs, wrap_eq (by omega) (by omega)]
  · have : (cmpL a a == 0) = true := by
      have := cmpL_swap a a
      have e : cmpL a a = 0 := by omega
      simp [e]
    have h := same_ev a a la
    rw [this] at h
    exact Evr.bind h (Evr.const rfl)
end Go.Proofs.YtinjibbjlcfkaaaDoor.LRowOrder
