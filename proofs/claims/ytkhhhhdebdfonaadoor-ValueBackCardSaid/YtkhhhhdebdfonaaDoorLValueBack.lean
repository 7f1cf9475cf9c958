/- The plain side of ValueBack: what is cast to a wider kind is of that kind, and cast back it is what it was; the order stays. -/
import Derived.Test.YtkhhhhdebdfonaaDoorQValueBack
import Derived.Test.YtkhhhhdebdfonaaDoorVp
import Derived.Test.YtkhhhhdebdfonaaDoorVo
import Derived.Test.YtkhhhhdebdfonaaDoorPAx10
namespace Go.Proofs.YtkhhhhdebdfonaaDoor.LValueBack
open Go Go.RowKit Go.Proofs.YtkhhhhdebdfonaaDoorW.PrintWords Go.Proofs.YtkhhhhdebdfonaaDoor.PA Go.Proofs.YtkhhhhdebdfonaaDoor.Op Go.Proofs.YtkhhhhdebdfonaaDoor.Vp Go.Proofs.YtkhhhhdebdfonaaDoor.Vo
set_option linter.unusedVariables false
set_option linter.unusedSimpArgs false
def fitsB (K N : Int) (S : ByteArray) (k : Int) : Bool := rightB K N S && (columnB k && decide (K = 0 ∨ K = k))
theorem fits_eq (K N : Int) (S : ByteArray) (k : Int) : value_Fits.f K N S k = some (fitsB K N S k) := by
  unfold value_Fits.f fitsB
  rw [right_eq, column_eq]
  simp only [Option.bind_some]
  by_cases hr : rightB K N S = true
  · rw [if_pos hr, hr]
    by_cases hc : columnB k = true
    · rw [if_pos hc, hc]
      by_cases h0 : K = 0
      · rw [if_pos h0]; simp [h0]
      · rw [if_neg h0]; simp only [Bool.true_and]; exact se (by omega)
    · rw [if_neg hc, show columnB k = false by simpa using hc]; rfl
  · rw [if_neg hr, show rightB K N S = false by simpa using hr]; rfl
theorem right_text {K N : Int} {S : ByteArray} (h : rightB K N S = true) (h4 : ¬ K = 4) : S.toList = [] := by
  unfold rightB at h
  rw [if_neg h4] at h
  simp only [decide_eq_true_eq] at h
  exact h.1
theorem right_room {K N : Int} {S : ByteArray} (h4 : ¬ K = 4) : rightB K N S = (decide (S.toList = []) && roomB N K) := by
  unfold rightB roomB
  rw [if_neg h4, Bool.eq_iff_iff]
  simp
/-- What a cast that goes through is. -/
theorem cast_ok {K N : Int} {S : ByteArray} {k : Int} (h : (castV K N S k).2.2.2 = 0) :
    rightB K N S = true ∧ columnB k = true ∧ (((K = 0 ∨ K = k) ∧ castV K N S k = (K, N, S, 0)) ∨ (¬ K = 0 ∧ ¬ K = k ∧ ¬ K = 4 ∧ ¬ k = 4 ∧ roomB N k = true ∧ castV K N S k = (k, N, ⟨#[]⟩, 0))) := by
  unfold castV at h ⊢
  by_cases hr : rightB K N S = true ∧ columnB k = true
  · rw [if_pos hr] at h ⊢
    refine ⟨hr.1, hr.2, ?_⟩
    by_cases h0 : K = 0 ∨ K = k
    · rw [if_pos h0]; exact .inl ⟨h0, rfl⟩
    · rw [if_neg h0] at h ⊢
      by_cases h4 : K = 4 ∨ k = 4
      · rw [if_pos h4] at h; exact absurd h (by decide)
      · rw [if_neg h4] at h ⊢
        by_cases hm : roomB N k = true
        · rw [if_pos hm]; exact .inr ⟨fun e => h0 (.inl e), fun e => h0 (.inr e), fun e => h4 (.inl e), fun e => h4 (.inr e), hm, rfl⟩
        · rw [if_neg hm] at h; exact absurd h (by decide)
  · rw [if_neg hr] at h; exact absurd h (by decide)
theorem cast_err {K N : Int} {S : ByteArray} {k : Int} (h : ¬ (castV K N S k).2.2.2 = 0) : (castV K N S k).1 = 0 ∧ (castV K N S k).2.1 = 0 ∧ (castV K N S k).2.2.1 = ⟨#[]⟩ := by
  unfold castV at h ⊢
  by_cases hr : rightB K N S = true ∧ columnB k = true
  · rw [if_pos hr] at h ⊢
    by_cases h0 : K = 0 ∨ K = k
    · rw [if_pos h0] at h; exact absurd rfl h
    · rw [if_neg h0] at h ⊢
      by_cases h4 : K = 4 ∨ k = 4
      · rw [if_pos h4]; exact ⟨rfl, rfl, rfl⟩
      · rw [if_neg h4] at h ⊢
        by_cases hm : roomB N k = true
        · rw [if_pos hm] at h; exact absurd rfl h
        · rw [if_neg hm]; exact ⟨rfl, rfl, rfl⟩
  · rw [if_neg hr]; exact ⟨rfl, rfl, rfl⟩
theorem cmpV_text {K N K' N' : Int} {S T S' T' : ByteArray} (h : S.toList = T.toList) (h' : S'.toList = T'.toList) : cmpV K N S K' N' S' = cmpV K N T K' N' T' := by
  unfold cmpV
  rw [h, h']
theorem pure : QValueBack.Pure := by
  intro K N S K1 N1 S1 k _ _ _
  refine ⟨100, ?_⟩
  have nb : ¬ (false = true) := by decide
  have hj2 : ∀ (x y : Int) (z : ByteArray), rightB K N S = true → rightB K1 N1 S1 = true → castV K N S k = (x, y, z, 0) → instarlaw03_ValueBack.j2 98 k false K N S K1 N1 S1 x y z = some true := by
    intro x y z hr hr1 hc
    simp only [instarlaw03_ValueBack.j2, if_neg nb, cast_eq _ _ _ _ 94, alive_true 97 (by omega), Option.bind_some, if_true, compare_eq _ _ _ _ _ _ 93]
    by_cases he : (castV K1 N1 S1 k).2.2.2 = 0
    · rw [if_pos he]
      by_cases hk : K = K1
      · rw [if_pos hk]
        subst hk
        obtain ⟨_, _, h1⟩ := cast_ok (K := K) (N := N) (S := S) (k := k) (by rw [hc])
        obtain ⟨_, _, h2⟩ := cast_ok he
        rcases h1 with ⟨h0, e⟩ | ⟨h0, hk, h4, hk4, hm, e⟩
        · rcases h2 with ⟨_, e2⟩ | ⟨g0, gk, _, _, _, _⟩
          · rw [hc] at e
            simp only [Prod.mk.injEq] at e
            obtain ⟨rfl, rfl, rfl, _⟩ := e
            rw [e2]; simp
          · rcases h0 with h0 | h0
            · exact absurd h0 g0
            · exact absurd h0 gk
        · rcases h2 with ⟨g0, _⟩ | ⟨_, _, _, _, hm2, e2⟩
          · rcases g0 with g0 | g0
            · exact absurd g0 h0
            · exact absurd g0 hk
          · rw [hc] at e
            simp only [Prod.mk.injEq] at e
            obtain ⟨rfl, rfl, rfl, _⟩ := e
            rw [e2]
            simp only
            have t1 := right_text hr h4
            have t2 := right_text hr1 h4
            have : cmpV x y ⟨#[]⟩ x N1 ⟨#[]⟩ = cmpV K y S K N1 S1 := by
              unfold cmpV
              rw [t1, t2]
              have i1 : cmpI x x = 0 := by unfold cmpI; simp
              have i2 : cmpI K K = 0 := by unfold cmpI; simp
              rw [i1, i2, E_toList]
            rw [this]; simp
      · rw [if_neg hk]
    · rw [if_neg he]
  have hj1 : ∀ (x y : Int) (z : ByteArray), rightB K N S = true → rightB K1 N1 S1 = true → castV K N S k = (x, y, z, 0) → instarlaw03_ValueBack.j1 99 k false K N S K1 N1 S1 x y z = some true := by
    intro x y z hr hr1 hc
    simp only [instarlaw03_ValueBack.j1, if_neg nb, cast_eq _ _ _ _ 95, Option.bind_some]
    by_cases h0 : K = 0
    · rw [if_pos h0]; exact hj2 x y z hr hr1 hc
    · rw [if_neg h0]
      obtain ⟨_, hcol, h1⟩ := cast_ok (K := K) (N := N) (S := S) (k := k) (by rw [hc])
      have hKcol : columnB K = true := by
        have h := hr
        unfold rightB at h
        unfold columnB
        split at h <;> simp only [decide_eq_true_eq] at h ⊢ <;> omega
      have back : ∃ z', castV x y z K = (K, N, z', 0) ∧ z'.toList = S.toList := by
        rcases h1 with ⟨ha, e⟩ | ⟨_, hk, h4, hk4, hm, e⟩
        · rw [hc] at e
          simp only [Prod.mk.injEq] at e
          obtain ⟨rfl, rfl, rfl, _⟩ := e
          refine ⟨z, ?_, rfl⟩
          unfold castV
          rw [if_pos ⟨hr, hKcol⟩, if_pos (Or.inr rfl)]
        · rw [hc] at e
          simp only [Prod.mk.injEq] at e
          obtain ⟨rfl, rfl, rfl, _⟩ := e
          have hx0 : ¬ x = 0 := fun e => by rw [e] at hcol; exact absurd hcol (by decide)
          have hrx : rightB x y ⟨#[]⟩ = true := by rw [right_room hk4, hm, E_toList]; rfl
          have hry : roomB y K = true := by have := hr; rw [right_room h4] at this; simp only [Bool.and_eq_true] at this; exact this.2
          refine ⟨⟨#[]⟩, ?_, E_toList.trans (right_text hr h4).symm⟩
          unfold castV
          rw [if_pos ⟨hrx, hKcol⟩, if_neg (by omega), if_neg (by omega), if_pos hry]
      obtain ⟨z', e, hz⟩ := back
      rw [e]
      simp only [if_true]
      rw [show (!(K == K) || (!(N == N) || !(z'.toList == S.toList))) = false by simp [hz]]
      exact hj2 x y z hr hr1 hc
  have hj0 : ∀ b : Bool, (b = false → rightB K N S = true ∧ rightB K1 N1 S1 = true) → instarlaw03_ValueBack.j0 100 k b K N S K1 N1 S1 = some true := by
    intro b hb
    cases b with
    | true => simp only [instarlaw03_ValueBack.j0, if_true, alive_true 99 (by omega), Option.bind_some]
    | false =>
      obtain ⟨hr, hr1⟩ := hb rfl
      simp only [instarlaw03_ValueBack.j0, if_neg nb, cast_eq _ _ _ _ 96, alive_true 99 (by omega), Option.bind_some, fits_eq, if_true]
      by_cases he : (castV K N S k).2.2.2 = 0
      · rw [if_pos he]
        obtain ⟨_, hcol, h1⟩ := cast_ok he
        rcases h1 with ⟨h0, e⟩ | ⟨h0, hk, h4, hk4, hm, e⟩
        · have hf : fitsB K N S k = true := by
            unfold fitsB; rw [hr, hcol]; simpa using h0
          rw [e]
          simp only [hf, if_true]
          rw [show (!(K == K) || (!(N == N) || !(S.toList == S.toList))) = false by simp]
          have := hj1 K N S hr hr1 e
          split <;> exact this
        · have hrx : rightB k N ⟨#[]⟩ = true := by rw [right_room hk4, hm, E_toList]; rfl
          have hf : fitsB k N ⟨#[]⟩ k = true := by
            unfold fitsB; rw [hrx, hcol]; simp
          rw [e]
          simp only [hf, if_true]
          rw [if_neg h0]
          exact hj1 k N _ hr hr1 e
      · rw [if_neg he]
        obtain ⟨e1, e2, e3⟩ := cast_err he
        rw [e1, e2, e3, E_toList]
        rfl
  unfold instarlaw03_ValueBack.f
  rw [right_eq, right_eq]
  simp only [Option.bind_some]
  repeat' split
  all_goals first | exact hj0 true (fun h => absurd h (by decide)) | skip
  refine hj0 _ (fun h => ⟨by assumption, by simpa using h⟩)
end Go.Proofs.YtkhhhhdebdfonaaDoor.LValueBack
