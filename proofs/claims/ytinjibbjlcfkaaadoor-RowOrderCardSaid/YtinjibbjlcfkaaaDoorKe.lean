/- What row.Key comes to, and that it keeps the order. -/
import Derived.Test.YtinjibbjlcfkaaaDoorRo
import Derived.Test.YtinjibbjlcfkaaaDoorKo
import Derived.Test.YtinjibbjlcfkaaaDoorPDx2
import Derived.Test.YtinjibbjlcfkaaaDoorPDx4
namespace Go.Proofs.YtinjibbjlcfkaaaDoor.Ke
open Go Go.RowKit Go.Proofs.YtinjibbjlcfkaaaDoorW.PrintWords Go.Proofs.YtinjibbjlcfkaaaDoor.PD Go.Proofs.YtinjibbjlcfkaaaDoor.Rk Go.Proofs.YtinjibbjlcfkaaaDoor.Vo Go.Proofs.YtinjibbjlcfkaaaDoor.Ro Go.Proofs.YtinjibbjlcfkaaaDoor.Ko
set_option linter.unusedVariables false
set_option linter.unusedSimpArgs false
/-- A right value. -/
def RightV (v : S35) : Prop :=
  (v.f0 = 0 ∧ v.f1 = 0 ∧ v.f2.toList = []) ∨ (v.f0 = 1 ∧ (v.f1 = 0 ∨ v.f1 = 1) ∧ v.f2.toList = []) ∨ (v.f0 = 2 ∧ (-2147483648 ≤ v.f1 ∧ v.f1 ≤ 2147483647) ∧ v.f2.toList = []) ∨
    (v.f0 = 3 ∧ v.f2.toList = []) ∨ (v.f0 = 4 ∧ v.f1 = 0 ∧ v.f2.size ≤ 200)
theorem right_v {v : S35} (h : value_Right.f v.f0 v.f1 v.f2 = some true) : RightV v := by
  unfold RightV
  unfold value_Right.f value_room.f num_Narrow.f at h
  by_cases h4 : v.f0 = 4
  · rw [if_pos h4] at h
    by_cases h1 : v.f1 = 0
    · rw [if_pos h1] at h
      have h := of_decide_eq_true (Option.some.inj h)
      exact .inr (.inr (.inr (.inr ⟨h4, h1, by omega⟩)))
    · rw [if_neg h1] at h; cases h
  rw [if_neg h4] at h
  by_cases h0 : v.f0 = 0
  · rw [if_pos h0] at h
    by_cases hs : v.f2.toList = []
    · rw [if_pos hs, h0] at h
      simp at h
      exact .inl ⟨h0, h, hs⟩
    · rw [if_neg hs] at h; cases h
  rw [if_neg h0] at h
  by_cases h1 : v.f0 = 1
  · rw [if_pos h1] at h
    by_cases hs : v.f2.toList = []
    · rw [if_pos hs, h1] at h
      by_cases hz : v.f1 = 0
      · exact .inr (.inl ⟨h1, .inl hz, hs⟩)
      · simp [hz] at h
        exact .inr (.inl ⟨h1, .inr h, hs⟩)
    · rw [if_neg hs] at h; cases h
  rw [if_neg h1] at h
  by_cases h2 : v.f0 = 2
  · rw [if_pos h2] at h
    by_cases hs : v.f2.toList = []
    · rw [if_pos hs, h2] at h
      by_cases ha : v.f1 < -2147483648
      · simp [ha] at h
      · by_cases hb : v.f1 > 2147483647
        · simp [ha, hb] at h
        · exact .inr (.inr (.inl ⟨h2, ⟨by omega, by omega⟩, hs⟩))
    · rw [if_neg hs] at h; cases h
  rw [if_neg h2] at h
  by_cases h3 : v.f0 = 3
  · rw [if_pos h3] at h
    by_cases hs : v.f2.toList = []
    · exact .inr (.inr (.inr (.inl ⟨h3, hs⟩)))
    · rw [if_neg hs] at h; cases h
  · rw [if_neg h3] at h; cases h
/-- The lowest n bytes of a number, the highest first. -/
def be : Nat → Nat → List UInt8
  | 0, _ => []
  | n + 1, x => UInt8.ofNat (x / 256 ^ n) :: be n x
theorem be_len : ∀ n x, (be n x).length = n
  | 0, _ => rfl
  | n + 1, x => by simp [be, be_len n x]
theorem val_be : ∀ n x, val (be n x) = x % 256 ^ n
  | 0, x => by simp [be, val, Nat.mod_one]
  | n + 1, x => by
    have h := val_be n x
    have e : (UInt8.ofNat (x / 256 ^ n)).toNat = x / 256 ^ n % 256 := by simp
    simp only [be, val, be_len, h, e]
    rw [Nat.pow_succ, Nat.mod_mul]
    rw [Nat.mul_comm, Nat.add_comm]
/-- A right value's bytes. -/
def encB (v : S35) : List UInt8 :=
  if v.f0 = 0 then [0] else if v.f0 = 1 then [1, if v.f1 = 0 then 0 else 1] else if v.f0 = 2 then 2 :: be 4 (v.f1 + 2147483648).toNat
  else if v.f0 = 3 then 3 :: be 8 (v.f1 + 9223372036854775808).toNat else 4 :: (esc v.f2.toList ++ [0, 0])
theorem cmpI_lt (a b : Int) : cmpI a b < 0 ↔ a < b := by rcases cmpI_cases a b with ⟨h, e⟩ | ⟨h, e⟩ | ⟨h, e⟩ <;> rw [e] <;> omega
theorem cmpI_zero (a b : Int) : cmpI a b = 0 ↔ a = b := by rcases cmpI_cases a b with ⟨h, e⟩ | ⟨h, e⟩ | ⟨h, e⟩ <;> rw [e] <;> omega
theorem bl_irr (a : List UInt8) : Op.bytesLess a a = false := by
  cases h : Op.bytesLess a a with
  | false => rfl
  | true => have := bl_asymm h; rw [h] at this; cases this
theorem cmpS_lt (a b : List UInt8) : cmpS a b < 0 ↔ Op.bytesLess a b = true := by
  rcases cmpS_cases a b with ⟨h, e⟩ | ⟨h, e⟩ | ⟨h, e⟩ <;> rw [e]
  · simp [h]
  · subst h; simp [bl_irr]
  · simp [bl_asymm h]
theorem cmpS_zero (a b : List UInt8) : cmpS a b = 0 ↔ a = b := by
  rcases cmpS_cases a b with ⟨h, e⟩ | ⟨h, e⟩ | ⟨h, e⟩ <;> rw [e]
  · exact ⟨fun x => by omega, fun x => by subst x; rw [bl_irr] at h; cases h⟩
  · simp [h]
  · exact ⟨fun x => by omega, fun x => by subst x; rw [bl_irr] at h; cases h⟩
theorem cmpV_kind {K N K' N' : Int} {S S' : ByteArray} (h : K ≠ K') : cmpV K N S K' N' S' = cmpI K K' := by
  rw [cmpV, if_neg (fun e => h ((cmpI_zero _ _).1 e))]
theorem cmpV_num {K N N' : Int} {S S' : ByteArray} (hs : S.toList = []) (hs' : S'.toList = []) : cmpV K N S K N' S' = cmpI N N' := by
  rw [cmpV, if_pos ((cmpI_zero _ _).2 rfl), hs, hs']
  split
  · rename_i h; rw [h]; rfl
  · rfl
theorem cmpV_txt {K N : Int} {S S' : ByteArray} : cmpV K N S K N S' = cmpS S.toList S'.toList := by
  rw [cmpV, if_pos ((cmpI_zero _ _).2 rfl), if_pos ((cmpI_zero _ _).2 rfl)]
/-- How the bytes of two values, and what stands behind them, compare. -/
def Ord (p q : List UInt8) (c : Int) : Prop := ∀ x y, Op.bytesLess (p ++ x) (q ++ y) = (decide (c < 0) || (decide (c = 0) && Op.bytesLess x y))
theorem ord_num {p q : List UInt8} {a b : Int} (hl : p.length = q.length) (h1 : val p < val q ↔ a < b) (h2 : val p = val q ↔ a = b) : Ord p q (cmpI a b) := by
  intro x y
  obtain ⟨e1, e2⟩ := val_less p q hl
  rw [bl_same p q x y hl, e1]
  congr 1
  · exact decide_eq_decide.2 (h1.trans (cmpI_lt a b).symm)
  · congr 1
    exact decide_eq_decide.2 ((e2.trans h2).trans (cmpI_zero a b).symm)
theorem ord_cons (k : UInt8) {p q : List UInt8} {c : Int} (h : Ord p q c) : Ord (k :: p) (k :: q) c := by
  intro x y
  rw [List.cons_append, List.cons_append, bl_cons, h x y]
  simp
theorem ord_kind {K K' N N' : Int} {S S' : ByteArray} {k k' : UInt8} {p q : List UInt8} (h1 : k.toNat = K.toNat) (h2 : k'.toNat = K'.toNat) (g1 : 0 ≤ K) (g2 : 0 ≤ K') (hne : K ≠ K') : Ord (k :: p) (k' :: q) (cmpV K N S K' N' S') := by
  intro x y
  rw [cmpV_kind hne, List.cons_append, List.cons_append, bl_cons]
  have e1 : (k < k') ↔ cmpI K K' < 0 := by rw [cmpI_lt, UInt8.lt_iff_toNat_lt]; omega
  have e2 : ¬ k = k' := fun e => by subst e; omega
  have e3 : ¬ cmpI K K' = 0 := fun e => hne ((cmpI_zero _ _).1 e)
  have e4 : decide (k < k') = decide (cmpI K K' < 0) := decide_eq_decide.2 e1
  rw [e4]
  simp [e2, e3]
theorem ord_txt (s t : List UInt8) : Ord (esc s ++ [0, 0]) (esc t ++ [0, 0]) (cmpS s t) := by
  intro x y
  have h := esc_less s t x y
  simp only [List.append_assoc, List.cons_append, List.nil_append] at h ⊢
  rw [h]
  congr 1
  · rw [Bool.eq_iff_iff, decide_eq_true_iff, cmpS_lt]
  · congr 1
    exact decide_eq_decide.2 (cmpS_zero s t).symm
theorem val_be_eq {n x : Nat} (h : x < 256 ^ n) : val (be n x) = x := by rw [val_be, Nat.mod_eq_of_lt h]
theorem ord_enc {v w : S35} (hv : RightV v) (hw : RightV w) (iv : -9223372036854775808 ≤ v.f1 ∧ v.f1 ≤ 9223372036854775807) (iw : -9223372036854775808 ≤ w.f1 ∧ w.f1 ≤ 9223372036854775807) : Ord (encB v) (encB w) (cmp1 v w) := by
  unfold cmp1
  rcases hv with ⟨a, b, c⟩ | ⟨a, b, c⟩ | ⟨a, b, c⟩ | ⟨a, c⟩ | ⟨a, b, c⟩ <;> rcases hw with ⟨a', b', c'⟩ | ⟨a', b', c'⟩ | ⟨a', b', c'⟩ | ⟨a', c'⟩ | ⟨a', b', c'⟩
  all_goals try (simp only [encB, a, a']; simp only [show ((1 : Int) = 0) = False by simp, show ((2 : Int) = 0) = False by simp, show ((2 : Int) = 1) = False by simp, show ((3 : Int) = 0) = False by simp, show ((3 : Int) = 1) = False by simp, show ((3 : Int) = 2) = False by simp, show ((4 : Int) = 0) = False by simp, show ((4 : Int) = 1) = False by simp, show ((4 : Int) = 2) = False by simp, show ((4 : Int) = 3) = False by simp, if_true, if_false])
  all_goals try (exact ord_kind rfl rfl (by omega) (by omega) (by omega))
  · rw [cmpV_num c c', b, b']
    exact ord_num rfl (by simp) (by simp)
  · rw [cmpV_num c c']
    refine ord_cons 1 (ord_num rfl ?_ ?_)
    · rcases b with b | b <;> rcases b' with b' | b' <;> simp [b, b', val]
    · rcases b with b | b <;> rcases b' with b' | b' <;> simp [b, b', val]
  · rw [cmpV_num c c']
    refine ord_cons 2 (ord_num (by rw [be_len, be_len]) ?_ ?_)
    · rw [val_be_eq (by omega), val_be_eq (by omega)]; omega
    · rw [val_be_eq (by omega), val_be_eq (by omega)]; omega
  · rw [cmpV_num c c']
    refine ord_cons 3 (ord_num (by rw [be_len, be_len]) ?_ ?_)
    · rw [val_be_eq (by omega), val_be_eq (by omega)]; omega
    · rw [val_be_eq (by omega), val_be_eq (by omega)]; omega
  · rw [b, b', cmpV_txt]
    exact ord_cons 4 (ord_txt _ _)
end Go.Proofs.YtinjibbjlcfkaaaDoor.Ke
