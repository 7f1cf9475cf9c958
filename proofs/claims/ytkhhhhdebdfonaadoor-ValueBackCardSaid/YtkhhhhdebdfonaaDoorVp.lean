/- The plain side of layer 3: what the value functions compute. -/
import Derived.Test.YtkhhhhdebdfonaaDoorPAx3
import Derived.Test.YtkhhhhdebdfonaaDoorPAx4
import Derived.Test.YtkhhhhdebdfonaaDoorPAx5
import Derived.Test.YtkhhhhdebdfonaaDoorPAx6
namespace Go.Proofs.YtkhhhhdebdfonaaDoor.Vp
open Go Go.RowKit Go.Proofs.YtkhhhhdebdfonaaDoorW.PrintWords Go.Proofs.YtkhhhhdebdfonaaDoor.PA
set_option linter.unusedVariables false
set_option linter.unusedSimpArgs false
theorem alive_at : instarlaw03_alive.f 12 = some true := by decide +kernel
theorem alive_true (k : Nat) (h : 12 ≤ k) : instarlaw03_alive.f k = some true := at_rounds instarlaw03_alive.mono h alive_at

theorem sd {p q : Prop} [Decidable p] [Decidable q] (h : p ↔ q) : some (decide p) = some (decide q) := by simp [h]
theorem sf {q : Prop} [Decidable q] (h : ¬ q) : some false = some (decide q) := by simp [h]
theorem st {q : Prop} [Decidable q] (h : q) : some true = some (decide q) := by simp [h]
theorem se {a b : Int} {q : Prop} [Decidable q] (h : a = b ↔ q) : some (a == b) = some (decide q) := by
  rw [show (a == b) = decide (a = b) from rfl]; exact sd h
/-- Is a value right? -/
def rightB (K N : Int) (S : ByteArray) : Bool :=
  if K = 4 then decide (N = 0 ∧ (S.size : Int) ≤ 200)
  else decide (S.toList = [] ∧ ((K = 0 ∧ N = 0) ∨ (K = 1 ∧ (N = 0 ∨ N = 1)) ∨ (K = 2 ∧ -2147483648 ≤ N ∧ N ≤ 2147483647) ∨ K = 3))
/-- Has a kind a number? -/
def roomB (N K : Int) : Bool := decide ((K = 0 ∧ N = 0) ∨ (K = 1 ∧ (N = 0 ∨ N = 1)) ∨ (K = 2 ∧ -2147483648 ≤ N ∧ N ≤ 2147483647) ∨ K = 3)
def columnB (K : Int) : Bool := decide (1 ≤ K ∧ K ≤ 4)
abbrev E : ByteArray := ⟨#[]⟩
def castV (K N : Int) (S : ByteArray) (k : Int) : Int × Int × ByteArray × Int :=
  if rightB K N S = true ∧ columnB k = true then
    if K = 0 ∨ K = k then (K, N, S, 0)
    else if K = 4 ∨ k = 4 then (0, 0, E, 31)
    else if roomB N k = true then (k, N, E, 0) else (0, 0, E, 12)
  else (0, 0, E, 1)
def widerB (k t : Int) : Bool := if k = t ∨ t = 0 then decide (0 ≤ k ∧ k ≤ 4) else decide (1 ≤ t ∧ t < k ∧ k ≤ 3)

theorem room_eq (N K : Int) : value_room.f N K = some (roomB N K) := by
  unfold value_room.f roomB
  by_cases h0 : K = 0
  · rw [if_pos h0]; exact se (by omega)
  rw [if_neg h0]
  by_cases h1 : K = 1
  · rw [if_pos h1]
    by_cases hn : N = 0
    · rw [if_pos hn]; exact st (by omega)
    · rw [if_neg hn]; exact se (by omega)
  rw [if_neg h1]
  by_cases h2 : K = 2
  · rw [if_pos h2]
    simp only [num_Narrow.f]
    by_cases ha : N < -2147483648
    · rw [if_pos ha]; exact sf (by omega)
    · rw [if_neg ha]
      by_cases hb : N > 2147483647
      · rw [if_pos hb]; exact sf (by omega)
      · rw [if_neg hb]; exact st (by omega)
  · rw [if_neg h2]; exact se (by omega)
theorem right_eq (K N : Int) (S : ByteArray) : value_Right.f K N S = some (rightB K N S) := by
  unfold value_Right.f rightB
  simp only [room_eq, Option.bind_some]
  by_cases h4 : K = 4
  · simp [h4]; by_cases hn : N = 0 <;> simp [hn]
  · by_cases h0 : K = 0
    · by_cases hs : S.toList = [] <;> simp [h4, h0, hs, roomB]
    · by_cases h1 : K = 1
      · by_cases hs : S.toList = [] <;> simp [h4, h1, hs, roomB]
      · by_cases h2 : K = 2
        · by_cases hs : S.toList = [] <;> simp [h4, h2, hs, roomB]
        · by_cases h3 : K = 3
          · by_cases hs : S.toList = [] <;> simp [h4, h3, hs, roomB]
          · simp [h0, h1, h2, h3, h4]
theorem column_eq (K : Int) : value_column.f K = some (columnB K) := by
  unfold value_column.f columnB
  by_cases h : K > 0 <;> simp [h] <;> omega
theorem cast_eq (K N : Int) (S : ByteArray) (k : Int) (n : Nat) : value_Cast.f (n + 3) K N S k = some (castV K N S k) := by
  simp only [value_Cast.f, right_eq, column_eq, Option.bind_some]
  unfold castV
  by_cases hr : rightB K N S = true
  · by_cases hc : columnB k = true
    · rw [if_pos hr, if_pos ⟨hr, hc⟩, hc]
      simp only [Bool.not_true, value_Cast.j0, if_neg (show ¬ (false = true) by decide)]
      by_cases h0 : K = 0
      · rw [if_pos h0, if_pos (Or.inl h0)]; simp only [value_Cast.j1, if_true]
      · rw [if_neg h0]
        by_cases hk : K = k
        · rw [if_pos (Or.inr hk), show (K == k) = true by simpa using hk]; simp only [value_Cast.j1, if_true]
        · rw [if_neg (show ¬ (K = 0 ∨ K = k) by omega), show (K == k) = false by simpa using hk]
          simp only [value_Cast.j1, if_neg (show ¬ (false = true) by decide)]
          by_cases h4 : K = 4
          · rw [if_pos h4, if_pos (Or.inl h4)]; simp only [value_Cast.j2, if_true]
          · rw [if_neg h4]
            by_cases hk4 : k = 4
            · rw [if_pos (Or.inr hk4), show (k == 4) = true by simpa using hk4]; simp only [value_Cast.j2, if_true]
            · rw [if_neg (show ¬ (K = 4 ∨ k = 4) by omega), show (k == 4) = false by simpa using hk4]
              simp only [value_Cast.j2, if_neg (show ¬ (false = true) by decide), room_eq, Option.bind_some]
              by_cases hm : roomB N k = true
              · rw [if_pos hm, if_pos hm]
              · rw [if_neg hm, if_neg hm]
    · rw [if_pos hr, if_neg (fun h => hc h.2), show columnB k = false by simpa using hc]
      simp only [Bool.not_false, value_Cast.j0, if_true]
  · rw [if_neg hr, if_neg (fun h => hr h.1)]
    simp only [value_Cast.j0, if_true]
theorem refRight_eq (K N : Int) (S : ByteArray) (n : Nat) : instarref03_Right.f (n + 1) K N S = some (rightB K N S) := by
  unfold instarref03_Right.f rightB
  by_cases h4 : K = 4
  · rw [if_pos h4, if_pos h4]
    simp only [instarref03_Right.j0, if_neg (show ¬ (false = true) by decide)]
    rw [if_neg (by omega), if_neg (by omega), if_neg (by omega), if_neg (by omega), if_pos h4]
    by_cases hn : N = 0
    · rw [if_pos hn]; exact sd (by omega)
    · rw [if_neg hn]; exact sf (by omega)
  · rw [if_neg h4, if_neg h4]
    by_cases hs : S.toList = []
    · rw [show (S.toList != []) = false by simp [hs]]
      simp only [instarref03_Right.j0, if_neg (show ¬ (false = true) by decide), hs, true_and]
      by_cases h0 : K = 0
      · rw [if_pos h0]; exact se (by omega)
      rw [if_neg h0]
      by_cases h1 : K = 1
      · rw [if_pos h1]
        by_cases hn : N = 0
        · rw [if_pos hn]; exact st (by omega)
        · rw [if_neg hn]; exact se (by omega)
      rw [if_neg h1]
      by_cases h2 : K = 2
      · rw [if_pos h2]
        by_cases hn : N ≥ -2147483648
        · rw [if_pos hn]; exact sd (by omega)
        · rw [if_neg hn]; exact sf (by omega)
      rw [if_neg h2]
      by_cases h3 : K = 3
      · rw [if_pos h3]; exact st (by omega)
      · rw [if_neg h3, if_neg h4]; exact sf (by omega)
    · rw [show (S.toList != []) = true by simp [hs]]
      simp only [instarref03_Right.j0, if_true]
      exact sf (fun h => hs h.1)
theorem refColumn_eq (K : Int) : instarref03_Column.f K = some (columnB K) := by
  unfold instarref03_Column.f columnB
  by_cases h : K ≥ 1
  · rw [if_pos h]; exact sd (by omega)
  · rw [if_neg h]; exact sf (by omega)
theorem refCast_eq (K N : Int) (S : ByteArray) (k : Int) (n : Nat) : instarref03_Cast.f (n + 4) K N S k = some (castV K N S k) := by
  simp only [instarref03_Cast.f, refRight_eq, refColumn_eq, Option.bind_some]
  unfold castV
  have hrm : ¬ k = 4 → rightB k N (⟨#[]⟩ : ByteArray) = roomB N k := fun hk4 => by simp only [rightB, roomB, if_neg hk4]; simp
  by_cases hr : rightB K N S = true
  · by_cases hc : columnB k = true
    · rw [if_pos hr, if_pos ⟨hr, hc⟩, hc]
      simp only [Bool.not_true, instarref03_Cast.j0, if_neg (show ¬ (false = true) by decide)]
      by_cases h0 : K = 0
      · rw [if_pos h0, if_pos (Or.inl h0)]; simp only [instarref03_Cast.j1, if_true]
      · rw [if_neg h0]
        by_cases hk : K = k
        · rw [if_pos (Or.inr hk), show (K == k) = true by simpa using hk]; simp only [instarref03_Cast.j1, if_true]
        · rw [if_neg (show ¬ (K = 0 ∨ K = k) by omega), show (K == k) = false by simpa using hk]
          simp only [instarref03_Cast.j1, if_neg (show ¬ (false = true) by decide)]
          by_cases h4 : K = 4
          · rw [if_pos h4, if_pos (Or.inl h4)]; simp only [instarref03_Cast.j2, if_true]
          · rw [if_neg h4]
            by_cases hk4 : k = 4
            · rw [if_pos (Or.inr hk4), show (k == 4) = true by simpa using hk4]; simp only [instarref03_Cast.j2, if_true]
            · rw [if_neg (show ¬ (K = 4 ∨ k = 4) by omega), show (k == 4) = false by simpa using hk4]
              simp only [instarref03_Cast.j2, if_neg (show ¬ (false = true) by decide), refRight_eq, hrm hk4, Option.bind_some]
              by_cases hm : roomB N k = true
              · rw [if_pos hm, if_pos hm]
              · rw [if_neg hm, if_neg hm]
    · rw [if_pos hr, if_neg (fun h => hc h.2), show columnB k = false by simpa using hc]
      simp only [Bool.not_false, instarref03_Cast.j0, if_true]
  · rw [if_neg hr, if_neg (fun h => hr h.1)]
    simp only [instarref03_Cast.j0, if_true]
theorem refWider_eq (k t : Int) : instarref03_Wider.f k t = some (widerB k t) := by
  unfold instarref03_Wider.f widerB
  by_cases h1 : k = t
  · rw [if_pos h1, if_pos (Or.inl h1)]
    by_cases h : k ≥ 0
    · rw [if_pos h]; exact sd (by omega)
    · rw [if_neg h]; exact sf (by omega)
  rw [if_neg h1]
  by_cases h2 : t = 0
  · rw [if_pos h2, if_pos (Or.inr h2)]
    by_cases h : k ≥ 0
    · rw [if_pos h]; exact sd (by omega)
    · rw [if_neg h]; exact sf (by omega)
  rw [if_neg h2, if_neg (show ¬ (k = t ∨ t = 0) by omega)]
  by_cases h3 : t ≥ 1
  · rw [if_pos h3]
    by_cases h4 : t < k
    · rw [if_pos h4]; exact sd (by omega)
    · rw [if_neg h4]; exact sf (by omega)
  · rw [if_neg h3]; exact sf (by omega)
theorem wider_eq (k t : Int) (n : Nat) : value_Wider.f (n + 1) k t = some (widerB k t) := by
  unfold value_Wider.f widerB
  by_cases h1 : t = k
  · rw [if_pos h1, if_pos (Or.inl h1.symm), show (t == k) = true by simpa using h1]
    simp only [value_Wider.j0, column_eq, Option.bind_some, columnB, if_true]
    by_cases h0 : k = 0
    · rw [if_pos h0]; exact st (by omega)
    · rw [if_neg h0]; exact sd (by omega)
  rw [if_neg h1]
  by_cases h0 : t = 0
  · rw [if_pos (Or.inr h0), show (t == 0) = true by simpa using h0]
    simp only [value_Wider.j0, column_eq, Option.bind_some, columnB, if_true]
    by_cases h0 : k = 0
    · rw [if_pos h0]; exact st (by omega)
    · rw [if_neg h0]; exact sd (by omega)
  rw [if_neg (show ¬ (k = t ∨ t = 0) by omega), show (t == 0) = false by simpa using h0]
  simp only [value_Wider.j0, column_eq, Option.bind_some, columnB, if_neg (show ¬ (false = true) by decide)]
  by_cases ha : t = 1
  · rw [if_pos ha]
    by_cases hb : k = 2
    · rw [if_pos hb]; exact st (by omega)
    · rw [if_neg hb]; exact se (by omega)
  rw [if_neg ha]
  by_cases hb : t = 2
  · rw [if_pos hb]; exact se (by omega)
  · rw [if_neg hb]; exact sf (by omega)
end Go.Proofs.YtkhhhhdebdfonaaDoor.Vp
