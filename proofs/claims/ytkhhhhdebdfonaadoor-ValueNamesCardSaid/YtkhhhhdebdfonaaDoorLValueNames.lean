/- The plain side of ValueNames: the names of the kinds, and the kinds of the names. -/
import Derived.Test.YtkhhhhdebdfonaaDoorQValueNames
import Derived.Test.YtkhhhhdebdfonaaDoorVp
namespace Go.Proofs.YtkhhhhdebdfonaaDoor.LValueNames
open Go Go.RowKit Go.Proofs.YtkhhhhdebdfonaaDoorW.PrintWords Go.Proofs.YtkhhhhdebdfonaaDoor.PA Go.Proofs.YtkhhhhdebdfonaaDoor.Op Go.Proofs.YtkhhhhdebdfonaaDoor.Vp
theorem name_eq (k : Int) : value_Name.f k = instarref03_Name.f k := by
  unfold value_Name.f instarref03_Name.f
  by_cases h0 : k = 0
  · subst h0; rfl
  by_cases h1 : k = 1
  · subst h1; rfl
  by_cases h2 : k = 2
  · subst h2; rfl
  by_cases h3 : k = 3
  · subst h3; rfl
  by_cases h4 : k = 4
  · subst h4; rfl
  rw [if_neg h0, if_neg h0, if_neg h1, if_neg h2, if_neg h3, if_neg h4, column_eq]
  simp only [Option.bind_some]
  rw [if_neg (by simp only [columnB, decide_eq_true_eq]; omega)]
/-- The name of a kind, as a list. -/
def nameL (k : Int) : ByteArray := if k = 0 then ⟨#[110, 117, 108, 108]⟩ else if k = 1 then ⟨#[98, 111, 111, 108]⟩ else if k = 2 then ⟨#[105, 110, 116, 51, 50]⟩ else if k = 3 then ⟨#[105, 110, 116, 54, 52]⟩ else if k = 4 then ⟨#[116, 101, 120, 116]⟩ else ⟨#[]⟩
theorem refName_eq (k : Int) : instarref03_Name.f k = some (nameL k) := by
  unfold instarref03_Name.f nameL
  repeat' split
  all_goals rfl
/-- What a name's kind is. -/
def namedV (s : ByteArray) : Int × Bool :=
  if s.toList = (nameL 1).toList then (1, true) else if s.toList = (nameL 2).toList then (2, true) else if s.toList = (nameL 3).toList then (3, true) else if s.toList = (nameL 4).toList then (4, true) else (0, false)
theorem named_eq (s : ByteArray) (n : Nat) : value_Named.f (n + 6) s = some (namedV s) := by
  have hnn : ∀ i j : Int, 0 ≤ i → i ≤ 4 → 0 ≤ j → j ≤ 4 → (nameL i).toList = (nameL j).toList → i = j := by
    intro i j a b c d
    obtain rfl | rfl | rfl | rfl | rfl : i = 0 ∨ i = 1 ∨ i = 2 ∨ i = 3 ∨ i = 4 := by omega
    all_goals obtain rfl | rfl | rfl | rfl | rfl : j = 0 ∨ j = 1 ∨ j = 2 ∨ j = 3 ∨ j = 4 := by omega
    all_goals decide +kernel
  have r0 : rdOf ByteArray.empty [nameL 0, nameL 1, nameL 2, nameL 3, nameL 4] 0 = nameL 0 := rfl
  have r1 : rdOf ByteArray.empty [nameL 0, nameL 1, nameL 2, nameL 3, nameL 4] 1 = nameL 1 := rfl
  have r2 : rdOf ByteArray.empty [nameL 0, nameL 1, nameL 2, nameL 3, nameL 4] 2 = nameL 2 := rfl
  have r3 : rdOf ByteArray.empty [nameL 0, nameL 1, nameL 2, nameL 3, nameL 4] 3 = nameL 3 := rfl
  have r4 : rdOf ByteArray.empty [nameL 0, nameL 1, nameL 2, nameL 3, nameL 4] 4 = nameL 4 := rfl
  have w1 : wrap64 (0 + 1) = 1 := by unfold wrap64; omega
  have w2 : wrap64 (1 + 1) = 2 := by unfold wrap64; omega
  have w3 : wrap64 (2 + 1) = 3 := by unfold wrap64; omega
  have w4 : wrap64 (3 + 1) = 4 := by unfold wrap64; omega
  have w5 : wrap64 (4 + 1) = 5 := by unfold wrap64; omega
  have hf : value_names.f = some [nameL 0, nameL 1, nameL 2, nameL 3, nameL 4] := rfl
  have hlen : (([nameL 0, nameL 1, nameL 2, nameL 3, nameL 4] : List ByteArray).length : Int) = 5 := rfl
  simp only [value_Named.f, hf, Option.bind_some, slices_Index_string_string.f, slices_Index_string_string.l0, hlen, r0, r1, r2, r3, r4, w1, w2, w3, w4, w5, show (0 : Int) < 5 by decide, show (1 : Int) < 5 by decide, show (2 : Int) < 5 by decide, show (3 : Int) < 5 by decide, show (4 : Int) < 5 by decide, show ¬ (5 : Int) < 5 by decide,
    show (0 : Int) ≤ 0 by decide, show (0 : Int) ≤ 1 by decide, show (0 : Int) ≤ 2 by decide, show (0 : Int) ≤ 3 by decide, show (0 : Int) ≤ 4 by decide, if_true, if_false, column_eq]
  by_cases h0 : s.toList = (nameL 0).toList
  · rw [if_pos h0]
    have e1 : ¬ s.toList = (nameL 1).toList := fun e => by have := hnn 0 1 (by omega) (by omega) (by omega) (by omega) (h0.symm.trans e); omega
    have e2 : ¬ s.toList = (nameL 2).toList := fun e => by have := hnn 0 2 (by omega) (by omega) (by omega) (by omega) (h0.symm.trans e); omega
    have e3 : ¬ s.toList = (nameL 3).toList := fun e => by have := hnn 0 3 (by omega) (by omega) (by omega) (by omega) (h0.symm.trans e); omega
    have e4 : ¬ s.toList = (nameL 4).toList := fun e => by have := hnn 0 4 (by omega) (by omega) (by omega) (by omega) (h0.symm.trans e); omega
    unfold namedV
    rw [if_neg e1, if_neg e2, if_neg e3, if_neg e4]
    rfl
  rw [if_neg h0]
  by_cases h1 : s.toList = (nameL 1).toList
  · unfold namedV; rw [if_pos h1, if_pos h1]; rfl
  rw [if_neg h1]
  by_cases h2 : s.toList = (nameL 2).toList
  · unfold namedV; rw [if_pos h2, if_neg h1, if_pos h2]; rfl
  rw [if_neg h2]
  by_cases h3 : s.toList = (nameL 3).toList
  · unfold namedV; rw [if_pos h3, if_neg h1, if_neg h2, if_pos h3]; rfl
  rw [if_neg h3]
  by_cases h4 : s.toList = (nameL 4).toList
  · unfold namedV; rw [if_pos h4, if_neg h1, if_neg h2, if_neg h3, if_pos h4]; rfl
  · unfold namedV; rw [if_neg h4, if_neg h1, if_neg h2, if_neg h3, if_neg h4]; rfl
theorem named_name (k : Int) : namedV (nameL k) = if columnB k = true then (k, true) else (0, false) := by
  by_cases h0 : k = 0
  · subst h0; decide +kernel
  by_cases h1 : k = 1
  · subst h1; decide +kernel
  by_cases h2 : k = 2
  · subst h2; decide +kernel
  by_cases h3 : k = 3
  · subst h3; decide +kernel
  by_cases h4 : k = 4
  · subst h4; decide +kernel
  rw [if_neg (by simp only [columnB, decide_eq_true_eq]; omega)]
  unfold nameL
  rw [if_neg h0, if_neg h1, if_neg h2, if_neg h3, if_neg h4]
  decide +kernel
theorem pure : QValueNames.Pure := by
  intro k s _ _
  refine ⟨100, ?_⟩
  have hj : ∀ (l : Int) (i want : Bool), i = want → (i = true ∨ l = 0) → instarlaw03_ValueNames.j0 100 k l i want = some true := by
    intro l i want hi hl
    simp only [instarlaw03_ValueNames.j0, name_eq, refName_eq, Option.bind_some, named_eq _ 93, refColumn_eq, alive_true 99 (by omega), named_name, if_true, hi, BEq.rfl]
    by_cases hw : want = true
    · rw [if_pos hw]
      by_cases hc : columnB k = true
      · simp [hc]
      · simp [hc]
    · have hl0 : l = 0 := hl.elim (fun h => absurd (hi.symm.trans h) hw) id
      rw [if_neg hw, if_pos hl0]
      by_cases hc : columnB k = true
      · simp [hc]
      · simp [hc]
  unfold instarlaw03_ValueNames.f
  rw [named_eq s 94]
  simp only [Option.bind_some]
  by_cases hz : (namedV s).1 = 0
  · rw [if_pos hz]
    refine hj _ _ _ ?_ (Or.inr hz)
    unfold namedV at hz ⊢
    repeat' split at hz
    all_goals simp_all
  · rw [if_neg hz, refName_eq]
    simp only [Option.bind_some]
    have hs : (nameL (namedV s).1).toList = s.toList ∧ columnB (namedV s).1 = true ∧ (namedV s).2 = true := by
      unfold namedV at hz ⊢
      split
      · exact ⟨by simp_all, by decide, rfl⟩
      split
      · exact ⟨by simp_all, by decide, rfl⟩
      split
      · exact ⟨by simp_all, by decide, rfl⟩
      split
      · exact ⟨by simp_all, by decide, rfl⟩
      · simp_all
    rw [if_pos hs.1, refColumn_eq]
    simp only [Option.bind_some]
    exact hj _ _ _ (hs.2.2.trans hs.2.1.symm) (Or.inl hs.2.2)
end Go.Proofs.YtkhhhhdebdfonaaDoor.LValueNames
