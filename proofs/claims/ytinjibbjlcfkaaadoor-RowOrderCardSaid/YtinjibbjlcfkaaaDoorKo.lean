/- Plain laws of bytes in order: numbers with the highest byte first, texts with their end. -/
import Derived.Test.YtinjibbjlcfkaaaDoorBs
import Derived.Lib.Replace
import Derived.Laws.BytesArg
import Derived.Lib.CountLaws
import Derived.Lib.IndexBytes
import Derived.Laws.BitsAllLaws
namespace Go.Proofs.YtinjibbjlcfkaaaDoor.Ko
open Go Go.RowKit
set_option linter.unusedVariables false
set_option linter.unusedSimpArgs false
theorem bl_cons (a b : UInt8) (x y : List UInt8) : Op.bytesLess (a :: x) (b :: y) = (decide (a < b) || (decide (a = b) && Op.bytesLess x y)) := by
  rw [Op.bytesLess]
  by_cases h : a < b
  · simp [h]
  · by_cases h2 : a = b
    · subst h2; simp [h]
    · have : b < a := by
        rw [UInt8.lt_iff_toNat_lt] at h ⊢
        have : a.toNat ≠ b.toNat := fun e => h2 (UInt8.toNat_inj.1 e)
        omega
      simp [h, h2, this]
theorem bl_app (p : List UInt8) (x y : List UInt8) : Op.bytesLess (p ++ x) (p ++ y) = Op.bytesLess x y := by
  induction p with
  | nil => rfl
  | cons a p ih => simp only [List.cons_append, bl_cons, ih]; simp
/-- Of one length: what stands behind counts where they are one. -/
theorem bl_same : ∀ (p q x y : List UInt8), p.length = q.length → Op.bytesLess (p ++ x) (q ++ y) = (Op.bytesLess p q || (decide (p = q) && Op.bytesLess x y))
  | [], [], x, y, _ => by simp [Op.bytesLess]
  | a :: p, b :: q, x, y, h => by
    have ih := bl_same p q x y (by simpa using h)
    simp only [List.cons_append, bl_cons, ih]
    by_cases h1 : a < b
    · simp [h1]
    · by_cases h2 : a = b
      · subst h2; simp [h1]
      · simp [h1, h2]
/-- The number of bytes, the highest first. -/
def val : List UInt8 → Nat
  | [] => 0
  | a :: p => a.toNat * 256 ^ p.length + val p
theorem val_lt : ∀ p : List UInt8, val p < 256 ^ p.length
  | [] => by simp [val]
  | a :: p => by
    have := val_lt p
    have ha := a.toNat_lt
    simp only [val, List.length_cons, Nat.pow_succ]
    have : a.toNat * 256 ^ p.length ≤ 255 * 256 ^ p.length := Nat.mul_le_mul_right _ (by omega)
    omega
theorem val_less : ∀ (p q : List UInt8), p.length = q.length → (Op.bytesLess p q = decide (val p < val q)) ∧ (p = q ↔ val p = val q)
  | [], [], _ => by simp [val, Op.bytesLess]
  | a :: p, b :: q, h => by
    have hl : p.length = q.length := by simpa using h
    obtain ⟨i1, i2⟩ := val_less p q hl
    have h1 := val_lt p
    have h2 := val_lt q
    rw [← hl] at h2
    have e1 : val (a :: p) = a.toNat * 256 ^ p.length + val p := rfl
    have e2 : val (b :: q) = b.toNat * 256 ^ p.length + val q := by rw [hl]; rfl
    rw [bl_cons, i1, e1, e2, List.cons.injEq]
    rcases Nat.lt_trichotomy a.toNat b.toNat with c | c | c
    · have hlt : a < b := UInt8.lt_iff_toNat_lt.2 c
      have hne : a ≠ b := fun e => by subst e; omega
      have := Nat.mul_le_mul_right (256 ^ p.length) (show a.toNat + 1 ≤ b.toNat from c)
      rw [Nat.add_mul, Nat.one_mul] at this
      constructor
      · simp [hlt]; omega
      · simp [hne]; omega
    · have he : a = b := UInt8.toNat_inj.1 c
      subst he
      constructor
      · simp
      · simp [i2]
    · have hlt : ¬ a < b := fun e => by have := UInt8.lt_iff_toNat_lt.1 e; omega
      have hne : a ≠ b := fun e => by subst e; omega
      have := Nat.mul_le_mul_right (256 ^ p.length) (show b.toNat + 1 ≤ a.toNat from c)
      rw [Nat.add_mul, Nat.one_mul] at this
      constructor
      · simp [hlt, hne]; omega
      · simp [hne]; omega
/-- A text's bytes: 0 is told as 0, 255. -/
def esc : List UInt8 → List UInt8
  | [] => []
  | c :: s => if c = 0 then 0 :: 255 :: esc s else c :: esc s
theorem esc_less : ∀ (s t x y : List UInt8), Op.bytesLess (esc s ++ (0 :: 0 :: x)) (esc t ++ (0 :: 0 :: y)) = (Op.bytesLess s t || (decide (s = t) && Op.bytesLess x y))
  | [], [], x, y => by simp [esc, bl_cons, Op.bytesLess]
  | [], c :: t, x, y => by
    by_cases h : c = 0
    · subst h; simp [esc, bl_cons, Op.bytesLess]
    · have : (0 : UInt8) < c := by
        rw [UInt8.lt_iff_toNat_lt]
        have : c.toNat ≠ 0 := fun e => h (UInt8.toNat_inj.1 (by simpa using e))
        simp; omega
      simp [esc, h, bl_cons, this, Op.bytesLess]
  | c :: s, [], x, y => by
    by_cases h : c = 0
    · subst h; simp [esc, bl_cons, Op.bytesLess]
    · have : ¬ c < 0 := by
        rw [UInt8.lt_iff_toNat_lt]
        simp
      simp [esc, h, bl_cons, this, Op.bytesLess]
  | c :: s, d :: t, x, y => by
    have ih := esc_less s t x y
    by_cases h : c = 0
    · by_cases h2 : d = 0
      · subst h; subst h2
        simp only [esc, if_true, List.cons_append, bl_cons, ih]
        simp
      · subst h
        have : (0 : UInt8) < d := by
          rw [UInt8.lt_iff_toNat_lt]
          have : d.toNat ≠ 0 := fun e => h2 (UInt8.toNat_inj.1 (by simpa using e))
          simp; omega
        simp [esc, h2, bl_cons, this]
    · by_cases h2 : d = 0
      · subst h2
        have h3 : ¬ c < 0 := by
          rw [UInt8.lt_iff_toNat_lt]
          simp
        simp [esc, h, bl_cons, h3]
      · simp only [esc, if_neg h, if_neg h2, List.cons_append, bl_cons, ih]
        by_cases h4 : c < d
        · simp [h4]
        · by_cases h5 : c = d
          · subst h5; simp [h4]
          · simp [h4, h5]
/-- Each byte that is c, replaced. -/
def repl1 (c : UInt8) (new : List UInt8) : List UInt8 → List UInt8
  | [] => []
  | b :: s => if b = c then new ++ repl1 c new s else b :: repl1 c new s
theorem replK_eq (c : UInt8) (new : List UInt8) (k : Nat) (s : List UInt8) : Lib.replaceK [c] new (k + 1) (c :: s) = new ++ Lib.replaceK [c] new k s := by
  have h : Lib.index (c :: s) [c] = ((0 : Nat) : Int) := by simp [Lib.index]
  rw [Lib.replaceK_hit _ _ _ _ 0 h]
  simp
theorem replK_ne (b c : UInt8) (h : b ≠ c) (new : List UInt8) (k : Nat) (s : List UInt8) : Lib.replaceK [c] new k (b :: s) = b :: Lib.replaceK [c] new k s := by
  cases k with
  | zero => rfl
  | succ k =>
    have hp : ([c].isPrefixOf (b :: s)) = false := by simp [List.isPrefixOf, Ne.symm h]
    by_cases hm : Lib.index s [c] = -1
    · have h1 : Lib.index (b :: s) [c] = -1 := by simp [Lib.index, hm, Ne.symm h]
      simp [Lib.replaceK, h1, hm]
    · have hge := Lib.index_ge s [c]
      obtain ⟨i, hi⟩ : ∃ i : Nat, Lib.index s [c] = i := ⟨(Lib.index s [c]).toNat, by omega⟩
      have h1 : Lib.index (b :: s) [c] = ((i + 1 : Nat) : Int) := by
        have hm' : ¬ ((i : Int) = -1) := by omega
        simp [Lib.index, hi, Ne.symm h]
        try omega
      rw [Lib.replaceK_hit _ _ _ _ _ h1, Lib.replaceK_hit _ _ _ _ _ hi]
      simp [Nat.add_right_comm]
theorem replK_one (c : UInt8) (new : List UInt8) : ∀ s : List UInt8, Lib.replaceK [c] new (Lib.count s [c]) s = repl1 c new s
  | [] => by
    cases h : Lib.count [] [c] with
    | zero => rfl
    | succ k => simp [Lib.replaceK, Lib.index, repl1]
  | b :: s => by
    have ih := replK_one c new s
    by_cases h : b = c
    · subst h
      rw [Lib.count_cons_eq, Nat.add_comm, replK_eq, ih]
      simp [repl1]
    · rw [Lib.count_cons_ne _ _ _ h, replK_ne _ _ h, ih]
      simp [repl1, h]
theorem replaceAll_one (c : UInt8) (new s : List UInt8) (hne : new ≠ [c]) : Lib.replaceAll s [c] new = repl1 c new s := by
  have h : ([c] == new) = false := by
    rw [beq_eq_false_iff_ne]
    exact fun e => hne e.symm
  simp only [Lib.replaceAll, Lib.replace, h, Bool.false_eq_true, if_false, Lib.replaceNum, show ((-1 : Int) < 0) = True by simp, true_or, if_true]
  exact replK_one c new s
theorem esc_repl : ∀ s : List UInt8, repl1 0 [0, 255] s = esc s
  | [] => rfl
  | b :: s => by
    have ih := esc_repl s
    by_cases h : b = 0
    · simp [repl1, esc, h, ih]
    · simp [repl1, esc, h, ih]
theorem xor_low {x i : Nat} (h : x < 2 ^ i) : x ^^^ 2 ^ i = x + 2 ^ i := by
  have e0 := Nat.two_pow_add_eq_or_of_lt h 1
  rw [Nat.mul_one] at e0
  rw [Nat.add_comm, e0]
  refine Nat.eq_of_testBit_eq fun j => ?_
  rw [Nat.testBit_xor, Nat.testBit_or, Nat.testBit_two_pow]
  by_cases e : i = j
  · subst e
    simp [Nat.testBit_lt_two_pow h]
  · simp [e]
theorem xor_high {x i : Nat} (h : x < 2 ^ i) : (x + 2 ^ i) ^^^ 2 ^ i = x := by
  rw [← xor_low h, Nat.xor_assoc, Nat.xor_self, Nat.xor_zero]
end Go.Proofs.YtinjibbjlcfkaaaDoor.Ko
