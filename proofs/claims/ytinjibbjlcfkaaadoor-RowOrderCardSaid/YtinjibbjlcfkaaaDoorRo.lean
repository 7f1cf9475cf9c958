/- Rows' order: what row.Compare and row.Same come to. -/
import Derived.Test.YtinjibbjlcfkaaaDoorRk
import Derived.Test.YtinjibbjlcfkaaaDoorVo
import Derived.Test.YtinjibbjlcfkaaaDoorPDx5
import Derived.Test.YtinjibbjlcfkaaaDoorPDx6
namespace Go.Proofs.YtinjibbjlcfkaaaDoor.Ro
open Go Go.RowKit Go.Proofs.YtinjibbjlcfkaaaDoorW.PrintWords Go.Proofs.YtinjibbjlcfkaaaDoor.PD Go.Proofs.YtinjibbjlcfkaaaDoor.Rk Go.Proofs.YtinjibbjlcfkaaaDoor.Vo
set_option linter.unusedVariables false
set_option linter.unusedSimpArgs false
def cmp1 (v w : S35) : Int := cmpV v.f0 v.f1 v.f2 w.f0 w.f1 w.f2
def cmpL : List S35 → List S35 → Int
  | [], [] => 0
  | [], _ :: _ => -1
  | _ :: _, [] => 1
  | v :: l, w :: m => if cmp1 v w = 0 then cmpL l m else cmp1 v w
theorem cmpL_swap : ∀ a b : List S35, cmpL b a = -cmpL a b
  | [], [] => rfl
  | [], _ :: _ => rfl
  | _ :: _, [] => rfl
  | v :: l, w :: m => by
    have h : cmp1 w v = -cmp1 v w := cmpV_swap _ _ _ _ _ _
    have ih := cmpL_swap l m
    simp only [cmpL]
    by_cases c : cmp1 v w = 0
    · rw [if_pos c, if_pos (by omega), ih]
    · rw [if_neg c, if_neg (by omega), h]
theorem cmpL_range : ∀ a b : List S35, cmpL a b = -1 ∨ cmpL a b = 0 ∨ cmpL a b = 1
  | [], [] => .inr (.inl rfl)
  | [], _ :: _ => .inl rfl
  | _ :: _, [] => .inr (.inr rfl)
  | v :: l, w :: m => by
    simp only [cmpL]
    split
    · exact cmpL_range l m
    · exact cmpV_range _ _ _ _ _ _
theorem comp_l (a b : List S35) (ha : a.length < 9223372036854775807) : ∀ n i, n = a.length - i → i ≤ a.length → i ≤ b.length →
    Evr (fun k => api_Value_38_value_Compare.l0 k a b a (a.length : Int) (i : Int)) (cmpL (a.drop i) (b.drop i))
  | n, i, hn, hi, hj => by
    refine Evr.succ ?_
    simp only [api_Value_38_value_Compare.l0]
    by_cases c : i < a.length
    · refine Evr.pos (by omega) (Evr.pos (by omega) (Evr.pos (by omega) ?_))
      by_cases c2 : i < b.length
      · refine Evr.neg (by omega) (Evr.pos (by omega) ?_)
        rw [rd_get c, rd_get c2, List.drop_eq_getElem_cons c, List.drop_eq_getElem_cons c2]
        have hc : Evr (fun k => value_Compare.f k a[i].f0 a[i].f1 a[i].f2 b[i].f0 b[i].f1 b[i].f2) (cmp1 a[i] b[i]) := ⟨4, fun k hk => by
          obtain ⟨m, rfl⟩ : ∃ m, k = m + 4 := ⟨k - 4, by omega⟩
          exact compare_eq _ _ _ _ _ _ m⟩
        refine Evr.bind hc ?_
        simp only [cmpL]
        by_cases c3 : cmp1 a[i] b[i] = 0
        · rw [if_pos c3]
          refine Evr.pos c3 ?_
          rw [wrap_nat (by omega)]
          exact comp_l a b ha (a.length - (i + 1)) (i + 1) rfl c c2
        · rw [if_neg c3]
          exact Evr.neg c3 (Evr.const rfl)
      · rw [List.drop_eq_getElem_cons c, List.drop_eq_nil_of_le (show b.length ≤ i by omega)]
        exact Evr.pos (by omega) (Evr.const rfl)
    · rw [List.drop_eq_nil_of_le (show a.length ≤ i by omega)]
      refine Evr.neg (by omega) ?_
      by_cases c2 : i < b.length
      · rw [List.drop_eq_getElem_cons c2]
        exact Evr.pos (by omega) (Evr.const rfl)
      · rw [List.drop_eq_nil_of_le (show b.length ≤ i by omega)]
        exact Evr.neg (by omega) (Evr.const rfl)
  termination_by n => n
theorem comp_ev (a b : List S35) (ha : a.length < 9223372036854775807) : Evr (fun k => row_Compare.f k a b) (cmpL a b) := by
  unfold row_Compare.f api_Value_38_value_Compare.f
  exact Evr.bind (by simpa using comp_l a b ha _ 0 rfl (Nat.zero_le _) (Nat.zero_le _)) (Evr.const rfl)
def eqB (v w : S35) : Bool := !(!((v.f0) == (w.f0)) || (!((v.f1) == (w.f1)) || (!((v.f2).toList == (w.f2).toList))))
theorem eqB_cmp (v w : S35) : eqB v w = (cmp1 v w == 0) := by
  have h := cmpV_zero v.f0 v.f1 v.f2 w.f0 w.f1 w.f2
  rw [Bool.eq_iff_iff]
  simp [eqB, cmp1, h]
theorem cmpL_len : ∀ a b : List S35, cmpL a b = 0 → a.length = b.length
  | [], [], _ => rfl
  | [], _ :: _, h => by simp [cmpL] at h
  | _ :: _, [], h => by simp [cmpL] at h
  | v :: l, w :: m, h => by
    simp only [cmpL] at h
    split at h
    · rw [List.length_cons, List.length_cons, cmpL_len l m h]
    · contradiction
theorem same_gen (a b : List S35) (ha : a.length < 9223372036854775807) (hab : a.length = b.length) : ∀ n i, n = a.length - i → i ≤ a.length →
    Evr (fun k => api_Value_41.l0 k a b (a.length : Int) (i : Int)) (cmpL (a.drop i) (b.drop i) == 0)
  | n, i, hn, hi => by
    refine Evr.succ ?_
    simp only [api_Value_41.l0]
    by_cases c : i < a.length
    · have c2 : i < b.length := by omega
      refine Evr.pos (by omega) (Evr.pos (by omega) (Evr.pos (by omega) (Evr.pos (by omega) ?_)))
      rw [rd_get c, rd_get c2, List.drop_eq_getElem_cons c, List.drop_eq_getElem_cons c2]
      have he := eqB_cmp a[i] b[i]
      simp only [cmpL]
      by_cases c3 : cmp1 a[i] b[i] = 0
      · rw [if_pos c3]
        refine Evr.neg ?_ ?_
        · rw [c3] at he
          intro h
          rw [eqB, h] at he
          cases he
        · rw [wrap_nat (by omega)]
          exact same_gen a b ha hab (a.length - (i + 1)) (i + 1) rfl c
      · rw [if_neg c3]
        have e0 : (cmp1 a[i] b[i] == 0) = false := by simpa using c3
        rw [e0]
        refine Evr.pos ?_ (Evr.const rfl)
        rw [e0, eqB] at he
        have nb : ∀ x : Bool, (!x) = false → x = true := by decide
        exact nb _ he
    · rw [List.drop_eq_nil_of_le (show a.length ≤ i by omega), List.drop_eq_nil_of_le (show b.length ≤ i by omega)]
      exact Evr.neg (by omega) (Evr.const rfl)
  termination_by n => n
theorem same_ev (a b : List S35) (ha : a.length < 9223372036854775807) : Evr (fun k => row_Same.f k a b) (cmpL a b == 0) := by
  unfold row_Same.f api_Value_41.f
  by_cases c : a.length = b.length
  · exact Evr.bind (Evr.pos (by omega) (by simpa using same_gen a b ha c _ 0 rfl (Nat.zero_le _))) (Evr.const rfl)
  · have : (cmpL a b == 0) = false := by
      rw [beq_eq_false_iff_ne]
      exact fun h => c (cmpL_len a b h)
    rw [this]
    exact Evr.bind (Evr.neg (by omega) (Evr.const rfl)) (Evr.const rfl)
end Go.Proofs.YtinjibbjlcfkaaaDoor.Ro
