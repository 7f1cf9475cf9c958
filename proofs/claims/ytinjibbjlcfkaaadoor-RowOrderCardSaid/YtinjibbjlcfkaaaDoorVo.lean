/- The plain side of value.Compare: an order. -/
import Derived.Test.YtinjibbjlcfkaaaDoorBs
import Derived.Test.YtinjibbjlcfkaaaDoorPDx5
namespace Go.Proofs.YtinjibbjlcfkaaaDoor.Vo
open Go Go.RowKit Go.Proofs.YtinjibbjlcfkaaaDoorW.PrintWords Go.Proofs.YtinjibbjlcfkaaaDoor.PD
set_option linter.unusedVariables false
set_option linter.unusedSimpArgs false
theorem E_toList : (⟨#[]⟩ : ByteArray).toList = [] := by decide +kernel
theorem bl_trans : ∀ a b c : List UInt8, Op.bytesLess a b = true → Op.bytesLess b c = true → Op.bytesLess a c = true
  | _, [], _, h, _ => by simp [Op.bytesLess] at h
  | _, _ :: _, [], _, h => by simp [Op.bytesLess] at h
  | [], _ :: _, _ :: _, _, _ => rfl
  | x :: a, y :: b, z :: c, h, h' => by
    simp only [Op.bytesLess, Bool.or_eq_true, decide_eq_true_eq, Bool.and_eq_true, beq_iff_eq] at h h' ⊢
    rcases h with h | ⟨h, hr⟩
    · rcases h' with h' | ⟨h', _⟩
      · exact .inl (UInt8.lt_trans h h')
      · exact .inl (h' ▸ h)
    · rcases h' with h' | ⟨h', hr'⟩
      · exact .inl (h ▸ h')
      · exact .inr ⟨h.trans h', bl_trans a b c hr hr'⟩
theorem bl_asymm {a b : List UInt8} (h : Op.bytesLess a b = true) : Op.bytesLess b a = false := by
  cases h' : Op.bytesLess b a with
  | false => rfl
  | true => have := bl_trans a b a h h'; rw [Bs.bytesLess_irrefl] at this; cases this
theorem bl_eq {a b : List UInt8} (h : Op.bytesLess a b = false) (h' : Op.bytesLess b a = false) : a = b := by
  have := Bs.bytesLess_or a b
  rw [h, h'] at this
  simpa using this
def cmpI (a b : Int) : Int := if a < b then -1 else if a > b then 1 else 0
def cmpS (a b : List UInt8) : Int := if Op.bytesLess a b = true then -1 else if Op.bytesLess b a = true then 1 else 0
def cmpV (K N : Int) (S : ByteArray) (K' N' : Int) (S' : ByteArray) : Int := if cmpI K K' = 0 then if cmpI N N' = 0 then cmpS S.toList S'.toList else cmpI N N' else cmpI K K'
theorem or3 (a b c : Int) (n : Nat) : cmp_Or_int.f (n + 4) [a, b, c] = some (if a = 0 then if b = 0 then c else b else a) := by
  have r0 : rd [a, b, c] 0 = a := rfl
  have r1 : rd [a, b, c] 1 = b := rfl
  have r2 : rd [a, b, c] 2 = c := rfl
  have w1 : wrap64 (0 + 1) = 1 := by unfold wrap64; omega
  have w2 : wrap64 (1 + 1) = 2 := by unfold wrap64; omega
  have w3 : wrap64 (2 + 1) = 3 := by unfold wrap64; omega
  have hl : (([a, b, c] : List Int).length : Int) = 3 := rfl
  simp only [cmp_Or_int.f, cmp_Or_int.l0, hl, r0, r1, r2, w1, w2, w3, show (0 : Int) < 3 by decide, show (1 : Int) < 3 by decide, show (2 : Int) < 3 by decide, show ¬ (3 : Int) < 3 by decide, show (0 : Int) ≤ 0 by decide, show (0 : Int) ≤ 1 by decide, show (0 : Int) ≤ 2 by decide, if_true, if_false]
  by_cases ha : a = 0
  · by_cases hb : b = 0
    · by_cases hc : c = 0 <;> simp [ha, hb, hc]
    · simp [ha, hb]
  · simp [ha]
theorem compare_eq (K N : Int) (S : ByteArray) (K' N' : Int) (S' : ByteArray) (n : Nat) : value_Compare.f (n + 4) K N S K' N' S' = some (cmpV K N S K' N' S') := by
  have h1 : ∀ a b : Int, api_Kind_56.f a b = some (cmpI a b) := fun a b => by
    simp only [api_Kind_56.f, api_Kind_71.f, bne_self_eq_false, Option.bind_some, cmpI]
    repeat' split
    all_goals simp_all
  have h2 : ∀ a b : Int, cmp_Compare_int64.f a b = some (cmpI a b) := fun a b => by
    simp only [cmp_Compare_int64.f, cmp_isNaN_int64.f, bne_self_eq_false, Option.bind_some, cmpI]
    repeat' split
    all_goals simp_all
  have h3 : ∀ a b : ByteArray, cmp_Compare_string.f a b = some (cmpS a.toList b.toList) := fun a b => by
    simp only [cmp_Compare_string.f, cmp_isNaN_string.f, bne_self_eq_false, Option.bind_some, cmpS]
    repeat' split
    all_goals simp_all
  simp only [value_Compare.f, h1, h2, h3, Option.bind_some, or3, cmpV]
theorem cmpI_cases (a b : Int) : (a < b ∧ cmpI a b = -1) ∨ (a = b ∧ cmpI a b = 0) ∨ (b < a ∧ cmpI a b = 1) := by
  unfold cmpI; split
  · exact .inl ⟨by assumption, rfl⟩
  split
  · exact .inr (.inr ⟨by omega, rfl⟩)
  · exact .inr (.inl ⟨by omega, rfl⟩)
theorem cmpS_cases (a b : List UInt8) : (Op.bytesLess a b = true ∧ cmpS a b = -1) ∨ (a = b ∧ cmpS a b = 0) ∨ (Op.bytesLess b a = true ∧ cmpS a b = 1) := by
  unfold cmpS; split
  · exact .inl ⟨by assumption, rfl⟩
  split
  · exact .inr (.inr ⟨by assumption, rfl⟩)
  · rename_i h h'
    exact .inr (.inl ⟨bl_eq (by simpa using h) (by simpa using h'), rfl⟩)
/-- Is a value ahead of another one? -/
def LtV (K N : Int) (S : ByteArray) (K' N' : Int) (S' : ByteArray) : Prop := K < K' ∨ (K = K' ∧ (N < N' ∨ (N = N' ∧ Op.bytesLess S.toList S'.toList = true)))
theorem cmpV_cases (K N : Int) (S : ByteArray) (K' N' : Int) (S' : ByteArray) :
    (LtV K N S K' N' S' ∧ cmpV K N S K' N' S' = -1) ∨ ((K = K' ∧ N = N' ∧ S.toList = S'.toList) ∧ cmpV K N S K' N' S' = 0) ∨ (LtV K' N' S' K N S ∧ cmpV K N S K' N' S' = 1) := by
  unfold cmpV LtV
  rcases cmpI_cases K K' with ⟨h, e⟩ | ⟨h, e⟩ | ⟨h, e⟩
  · rw [if_neg (by omega)]; exact .inl ⟨.inl h, e⟩
  · rw [if_pos e]
    rcases cmpI_cases N N' with ⟨g, f⟩ | ⟨g, f⟩ | ⟨g, f⟩
    · rw [if_neg (by omega)]; exact .inl ⟨.inr ⟨h, .inl g⟩, f⟩
    · rw [if_pos f]
      rcases cmpS_cases S.toList S'.toList with ⟨i, j⟩ | ⟨i, j⟩ | ⟨i, j⟩
      · exact .inl ⟨.inr ⟨h, .inr ⟨g, i⟩⟩, j⟩
      · exact .inr (.inl ⟨⟨h, g, i⟩, j⟩)
      · exact .inr (.inr ⟨.inr ⟨h.symm, .inr ⟨g.symm, i⟩⟩, j⟩)
    · rw [if_neg (by omega)]; exact .inr (.inr ⟨.inr ⟨h.symm, .inl g⟩, f⟩)
  · rw [if_neg (by omega)]; exact .inr (.inr ⟨.inl h, e⟩)
theorem LtV_trans {K N K' N' K2 N2 : Int} {S S' S2 : ByteArray} (h : LtV K N S K' N' S') (h' : LtV K' N' S' K2 N2 S2) : LtV K N S K2 N2 S2 := by
  unfold LtV at *
  rcases h with h | ⟨h, h1⟩
  · rcases h' with h' | ⟨h', _⟩
    · exact .inl (by omega)
    · exact .inl (by omega)
  · rcases h' with h' | ⟨h', h2⟩
    · exact .inl (by omega)
    · refine .inr ⟨by omega, ?_⟩
      rcases h1 with h1 | ⟨h1, h3⟩
      · rcases h2 with h2 | ⟨h2, _⟩
        · exact .inl (by omega)
        · exact .inl (by omega)
      · rcases h2 with h2 | ⟨h2, h4⟩
        · exact .inl (by omega)
        · exact .inr ⟨by omega, bl_trans _ _ _ h3 h4⟩
theorem LtV_irrefl {K N : Int} {S S' : ByteArray} (e : S.toList = S'.toList) : ¬ LtV K N S K N S' := by
  unfold LtV
  rw [e, Bs.bytesLess_irrefl]
  simp
theorem cmpV_swap (K N : Int) (S : ByteArray) (K' N' : Int) (S' : ByteArray) : cmpV K' N' S' K N S = -cmpV K N S K' N' S' := by
  rcases cmpV_cases K N S K' N' S' with ⟨h, e⟩ | ⟨h, e⟩ | ⟨h, e⟩ <;> rcases cmpV_cases K' N' S' K N S with ⟨g, f⟩ | ⟨g, f⟩ | ⟨g, f⟩
  · exact absurd (LtV_trans h g) (LtV_irrefl rfl)
  · obtain ⟨rfl, rfl, g3⟩ := g; exact absurd h (LtV_irrefl g3.symm)
  · omega
  · obtain ⟨rfl, rfl, h3⟩ := h; exact absurd g (LtV_irrefl h3.symm)
  · omega
  · obtain ⟨rfl, rfl, h3⟩ := h; exact absurd g (LtV_irrefl h3)
  · omega
  · obtain ⟨rfl, rfl, g3⟩ := g; exact absurd h (LtV_irrefl g3)
  · exact absurd (LtV_trans h g) (LtV_irrefl rfl)
theorem cmpV_range (K N : Int) (S : ByteArray) (K' N' : Int) (S' : ByteArray) : cmpV K N S K' N' S' = -1 ∨ cmpV K N S K' N' S' = 0 ∨ cmpV K N S K' N' S' = 1 := by
  rcases cmpV_cases K N S K' N' S' with ⟨_, e⟩ | ⟨_, e⟩ | ⟨_, e⟩ <;> simp [e]
theorem cmpV_zero (K N : Int) (S : ByteArray) (K' N' : Int) (S' : ByteArray) : cmpV K N S K' N' S' = 0 ↔ (K = K' ∧ N = N' ∧ S.toList = S'.toList) := by
  constructor
  · intro z
    rcases cmpV_cases K N S K' N' S' with ⟨_, e⟩ | ⟨h, _⟩ | ⟨_, e⟩
    · rw [e] at z; cases z
    · exact h
    · rw [e] at z; cases z
  · rintro ⟨rfl, rfl, h⟩
    rcases cmpV_cases K N S K N S' with ⟨g, _⟩ | ⟨_, e⟩ | ⟨g, _⟩
    · exact absurd g (LtV_irrefl h)
    · exact e
    · exact absurd g (LtV_irrefl h.symm)
theorem cmpV_trans {K N K' N' K2 N2 : Int} {S S' S2 : ByteArray} (h : cmpV K N S K' N' S' ≤ 0) (h' : cmpV K' N' S' K2 N2 S2 ≤ 0) : cmpV K N S K2 N2 S2 ≤ 0 := by
  rcases cmpV_cases K N S K2 N2 S2 with ⟨_, e⟩ | ⟨_, e⟩ | ⟨g, e⟩
  · omega
  · omega
  · rcases cmpV_cases K N S K' N' S' with ⟨a, _⟩ | ⟨⟨rfl, rfl, a⟩, _⟩ | ⟨_, f⟩
    · rcases cmpV_cases K' N' S' K2 N2 S2 with ⟨b, _⟩ | ⟨⟨rfl, rfl, b⟩, _⟩ | ⟨_, f⟩
      · exact absurd (LtV_trans (LtV_trans a b) g) (LtV_irrefl rfl)
      · exact absurd (LtV_trans g a) (LtV_irrefl b.symm)
      · omega
    · rcases cmpV_cases K N S' K2 N2 S2 with ⟨b, _⟩ | ⟨⟨rfl, rfl, b⟩, _⟩ | ⟨_, f⟩
      · exact absurd (LtV_trans b g) (LtV_irrefl a.symm)
      · exact absurd g (LtV_irrefl (b.symm.trans a.symm))
      · omega
    · omega
end Go.Proofs.YtinjibbjlcfkaaaDoor.Vo
