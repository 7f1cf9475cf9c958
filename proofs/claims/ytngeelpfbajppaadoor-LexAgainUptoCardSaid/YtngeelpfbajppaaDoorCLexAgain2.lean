/- For every input the law instar/instarlaw08.LexAgain returns true, and each argument reads afterwards as it read before; no condition but the row's own (what the listed variables hold, which the card ties to the program's text). -/
import Derived.Test.YtngeelpfbajppaaDoorCLexAgain1
import Derived.Test.YtngeelpfbajppaaDoorCLexAgain0
import Derived.Lib.Replace
import Derived.Laws.BytesArg
import Derived.Lib.CountLaws
import Derived.Lib.IndexBytes
import Derived.Laws.BitsAllLaws
import Derived.Test.YtngeelpfbajppaaDoorRows
import Derived.Lib.LaidU8
import Derived.Lib.LaidTab
import Derived.Shelf.LaysM
import Derived.Test.YtngeelpfbajppaaDoorCards
import Derived.Test.YtngeelpfbajppaaDoorTie
import Derived.WalkKit
import Derived.ProofKit
import Derived.OpenShut
import Derived.ShutString
import Derived.ChangeOld
import Derived.Below
import Derived.SizedLaws
import Derived.Deep.DeepHandedRow
import Derived.Deep.DeepWitnessRowRef
import Derived.Lay
import Derived.LaidOnce
import Derived.SevenTiedAt
import Derived.Lib.SmallJoins
section
namespace Go.Proofs.YtngeelpfbajppaaDoor.Ly
open Go Go.RowKit Go.Proofs.YtngeelpfbajppaaDoorW.PrintWords Go.Proofs.YtngeelpfbajppaaDoor.PD Go.Proofs.YtngeelpfbajppaaDoor.Rk
set_option linter.unusedVariables false
set_option linter.unusedSimpArgs false
def rp (name : Bool) (b : UInt8) : Bool := if name = true then lx_pN (b.toNat : Int) else lx_pF (b.toNat : Int)
theorem q39n : lx_q [39] = some ([], 1) := rfl
theorem q39 (l : List UInt8) : lx_q (39 :: 39 :: l) = (lx_q l).map fun x => (39 :: x.1, x.2 + 2) := by simp [lx_q]
theorem q39e {c : UInt8} (h : ¬ c = 39) (l : List UInt8) : lx_q (39 :: c :: l) = some ([], 1) := by simp [lx_q, h]
theorem qne {b : UInt8} (h : ¬ b = 39) (l : List UInt8) : lx_q (b :: l) = (lx_q l).map fun x => (b :: x.1, x.2 + 1) := by
  cases l with
  | nil => simp [lx_q, h]
  | cons c l => simp [lx_q, h]
abbrev c1 (x : Int × ByteArray × Int) : Int × ByteArray × Int × Int := (x.1, x.2.1, 0, x.2.2)
def mk (s : ByteArray) : Int × ByteArray × Int := if lx_at s 12 0 = -1 then (0, ⟨#[]⟩, 0) else (3, lx_marks.getD (lx_at s 12 0).toNat ByteArray.empty, ((lx_marks.getD (lx_at s 12 0).toNat ByteArray.empty).size : Int))
theorem one_eq (s : ByteArray) (b : UInt8) (l : List UInt8) (hb : s.data.toList = b :: l) : lx_one s =
    if lx_pL (b.toNat : Int) = true then (if lx_run (rp true) s.data.toList ≤ 20 then (0, s.extract 0 (lx_run (rp true) s.data.toList), (lx_run (rp true) s.data.toList : Int)) else (0, ⟨#[]⟩, 0))
    else if lx_pF (b.toNat : Int) = true then (if lx_run (rp false) s.data.toList ≤ 19 then (1, s.extract 0 (lx_run (rp false) s.data.toList), (lx_run (rp false) s.data.toList : Int)) else (0, ⟨#[]⟩, 0))
    else if b = 39 ∧ (lx_qr (lx_q l)).1.size ≤ 200 then (2, (lx_qr (lx_q l)).1, (lx_qr (lx_q l)).2)
    else mk s := by
  have e1 : rp true = fun b => lx_pN (b.toNat : Int) := by funext b; simp [rp]
  have e2 : rp false = fun b => lx_pF (b.toNat : Int) := by funext b; simp [rp]
  rw [e1, e2]
  unfold lx_one mk
  rw [hb]
theorem at_eq (s : ByteArray) : lx_at s 12 0 = if Lib.hasPrefix s.data.toList [60, 61] = true then 0 else if Lib.hasPrefix s.data.toList [62, 61] = true then 1 else if Lib.hasPrefix s.data.toList [60, 62] = true then 2 else
    if Lib.hasPrefix s.data.toList [40] = true then 3 else if Lib.hasPrefix s.data.toList [41] = true then 4 else if Lib.hasPrefix s.data.toList [44] = true then 5 else if Lib.hasPrefix s.data.toList [61] = true then 6 else
    if Lib.hasPrefix s.data.toList [60] = true then 7 else if Lib.hasPrefix s.data.toList [62] = true then 8 else if Lib.hasPrefix s.data.toList [43] = true then 9 else if Lib.hasPrefix s.data.toList [45] = true then 10 else
    if Lib.hasPrefix s.data.toList [42] = true then 11 else -1 := rfl
def m1 (b : UInt8) : Int := if (40 == b) = true then 3 else if (41 == b) = true then 4 else if (44 == b) = true then 5 else if (61 == b) = true then 6 else if (60 == b) = true then 7 else if (62 == b) = true then 8 else if (43 == b) = true then 9 else if (45 == b) = true then 10 else if (42 == b) = true then 11 else -1
theorem at_1 (s : ByteArray) (b : UInt8) (hb : s.data.toList = [b]) : lx_at s 12 0 = m1 b := by
  rw [at_eq, hb]
  simp [Lib.hasPrefix, List.isPrefixOf, m1]
theorem at_2 (s : ByteArray) (b c : UInt8) (l : List UInt8) (hb : s.data.toList = b :: c :: l) : lx_at s 12 0 = if (60 == b && 61 == c) = true then 0 else if (62 == b && 61 == c) = true then 1 else if (60 == b && 62 == c) = true then 2 else m1 b := by
  rw [at_eq, hb]
  simp [Lib.hasPrefix, List.isPrefixOf, m1]
theorem q_le : ∀ (l t : List UInt8) (n : Nat), lx_q l = some (t, n) → n ≤ l.length
  | [], t, n, h => by simp [lx_q] at h
  | [b], t, n, h => by
    simp only [lx_q] at h
    split at h
    · simp only [Option.some.injEq, Prod.mk.injEq] at h; obtain ⟨rfl, rfl⟩ := h; simp
    · cases h
  | b :: c :: l, t, n, h => by
    simp only [lx_q] at h
    split at h
    · split at h
      · obtain ⟨x, hx, h⟩ := Option.map_eq_some_iff.1 h
        simp only [Prod.mk.injEq] at h
        have := q_le l x.1 x.2 hx
        simp only [List.length_cons]; omega
      · simp only [Option.some.injEq, Prod.mk.injEq] at h; obtain ⟨rfl, rfl⟩ := h; simp
    · obtain ⟨x, hx, h⟩ := Option.map_eq_some_iff.1 h
      simp only [Prod.mk.injEq] at h
      have := q_le (c :: l) x.1 x.2 hx
      simp only [List.length_cons] at this ⊢; omega
theorem at_hit (s : ByteArray) : ∀ n i (j : Nat), lx_at s n i = (j : Int) → Lib.hasPrefix s.data.toList (lx_marks.getD j ByteArray.empty).data.toList = true
  | 0, i, j, h => by simp [lx_at] at h
  | n + 1, i, j, h => by
    unfold lx_at at h
    split at h
    · rename_i hp
      have : i = j := by omega
      subst this; exact hp
    · exact at_hit s n (i + 1) j h
theorem mk_le (s : ByteArray) : 0 ≤ (mk s).2.2 ∧ (mk s).2.2 ≤ s.size := by
  unfold mk
  rcases lx_at_cases s 12 0 with h | ⟨j, h1, h2⟩
  · rw [if_pos h]; simp
  · rw [if_neg (by omega), h2, Int.toNat_natCast]
    have hp := at_hit s 12 0 j h2
    have hl := (List.isPrefixOf_iff_prefix.1 hp).length_le
    rw [dl, dl] at hl
    exact ⟨by simp only; omega, by simp only; omega⟩
theorem one_le (s : ByteArray) : 0 ≤ (lx_one s).2.2 ∧ (lx_one s).2.2 ≤ s.size := by
  cases hb : s.data.toList with
  | nil => unfold lx_one; rw [hb]; simp
  | cons b l =>
    rw [one_eq s b l hb]
    have h1 := lx_run_le (rp true) s.data.toList
    have h2 := lx_run_le (rp false) s.data.toList
    have hz := dl s
    split
    · split
      · exact ⟨by simp only; omega, by simp only; omega⟩
      · simp
    split
    · split
      · exact ⟨by simp only; omega, by simp only; omega⟩
      · simp
    split
    · cases hq : lx_q l with
      | none => simp [lx_qr]
      | some x =>
        have := q_le l x.1 x.2 hq
        rw [hb, List.length_cons] at hz
        simp only [lx_qr]
        exact ⟨by omega, by omega⟩
    · exact mk_le s
def blank (b : UInt8) : Bool := ([32, 9, 10] : List UInt8).contains b
def wd (s : ByteArray) : Nat → List S35 → Nat → List S35 × Int × Int
  | 0, acc, i => (acc, 0, 0)
  | n + 1, acc, i =>
    if i < s.size then
      if blank (s.data.toList.getD i 0) = true then wd s n acc (i + 1)
      else if (lx_one (s.extract i s.size)).2.2 = 0 then ([], (i : Int), 81)
      else wd s n (acc ++ [⟨(lx_one (s.extract i s.size)).1, (lx_one (s.extract i s.size)).2.1, (i : Int)⟩]) (i + (lx_one (s.extract i s.size)).2.2.toNat)
    else (acc, 0, 0)
def tl (s : ByteArray) (i : Nat) : Nat := ((s.data.toList.drop i).dropWhile blank).length
theorem dw_le (p : UInt8 → Bool) : ∀ l : List UInt8, (l.dropWhile p).length ≤ l.length
  | [] => Nat.le_refl _
  | b :: l => by
    have := dw_le p l
    rw [List.dropWhile_cons]
    split
    · simp only [List.length_cons]; omega
    · exact Nat.le_refl _
theorem tl_le (s : ByteArray) (i : Nat) : tl s i ≤ s.size - i := by
  have := dw_le blank (s.data.toList.drop i)
  rw [List.length_drop, dl] at this
  exact this
theorem trim_eq (s : ByteArray) (i : Nat) : ∃ T, strings_TrimLeft.f (s.extract i s.size) (⟨#[32, 9, 10]⟩ : ByteArray) = some T ∧ T.size = tl s i := by
  refine ⟨_, by unfold strings_TrimLeft.f; rw [if_pos (by decide), if_pos (by decide)], ?_⟩
  rw [← dl]
  simp only [Lib.trimLeftS, ext_drop]
  rfl
def rnd (k : Nat) (s : ByteArray) (acc : List S35) (p : Nat) : Option (List S35 × Int × Int) :=
  if (p : Int) = (s.size : Int) then some (acc, 0, 0) else (lex_one.f (s.extract p s.size)).bind fun bt => if bt.2.2.2 = 0 then some ([], (p : Int), 81) else if acc.length < 4398046511104 then lex_Words.l0 k s (acc ++ [(⟨bt.1, bt.2.1, (p : Int)⟩ : S35)]) (wrap64 ((p : Int) + bt.2.2.2)) else none
theorem step_eq (k : Nat) (s : ByteArray) (acc : List S35) (i : Nat) (hs : s.size ≤ 2200000) (hi : i ≤ s.size) : lex_Words.l0 (k + 1) s acc (i : Int) = rnd k s acc (s.size - tl s i) := by
  obtain ⟨T, h1, h2⟩ := trim_eq s i
  have h3 := tl_le s i
  have e1 : wrap64 ((i : Int) + wrap64 (((s.size - i : Nat) : Int) - (T.size : Int))) = ((s.size - tl s i : Nat) : Int) := by
    rw [wrap_eq (x := ((s.size - i : Nat) : Int) - (T.size : Int)) (by omega) (by omega), wrap_eq (by omega) (by omega)]
    omega
  simp only [lex_Words.l0, Int.toNat_natCast, h1, Option.bind_some, e1]
  rw [if_pos (by omega), if_pos (by omega)]
  unfold rnd
  by_cases c : ((s.size - tl s i : Nat) : Int) = (s.size : Int)
  · rw [if_pos c, if_pos c]
  · rw [if_neg c, if_neg c, if_pos (by omega), if_pos (by omega)]
theorem getD_get {l : List UInt8} {i : Nat} (h : i < l.length) : l.getD i 0 = l[i] := by rw [List.getD_eq_getElem?_getD, List.getElem?_eq_getElem h]; rfl
theorem tl_blank {s : ByteArray} {i : Nat} (h : i < s.size) (hb : blank (s.data.toList.getD i 0) = true) : tl s i = tl s (i + 1) := by
  have h' : i < s.data.toList.length := by rw [dl]; exact h
  rw [getD_get h'] at hb
  unfold tl
  rw [List.drop_eq_getElem_cons h', List.dropWhile_cons, if_pos hb]
theorem tl_word {s : ByteArray} {i : Nat} (h : i < s.size) (hb : ¬ blank (s.data.toList.getD i 0) = true) : tl s i = s.size - i := by
  have h' : i < s.data.toList.length := by rw [dl]; exact h
  rw [getD_get h'] at hb
  unfold tl
  rw [List.drop_eq_getElem_cons h', List.dropWhile_cons, if_neg hb, ← List.drop_eq_getElem_cons h', List.length_drop, dl]
theorem same_step (s : ByteArray) (acc : List S35) (i : Nat) (hs : s.size ≤ 2200000) (h : i < s.size) (hb : blank (s.data.toList.getD i 0) = true) (k : Nat) : lex_Words.l0 k s acc (i : Int) = lex_Words.l0 k s acc ((i + 1 : Nat) : Int) := by
  cases k with
  | zero => rfl
  | succ k => rw [step_eq k s acc i hs (by omega), step_eq k s acc (i + 1) hs (by omega), tl_blank h hb]
theorem wp_l (s : ByteArray) (hs : s.size ≤ 2200000) : ∀ n acc i, s.size < n + i → i ≤ s.size → acc.length ≤ i → Evr (fun k => lex_Words.l0 k s acc (i : Int)) (wd s n acc i)
  | 0, acc, i, h1, h2, h3 => by omega
  | n + 1, acc, i, h1, h2, h3 => by
    unfold wd
    by_cases c : i < s.size
    · rw [if_pos c]
      by_cases b : blank (s.data.toList.getD i 0) = true
      · rw [if_pos b]
        have ih := wp_l s hs n acc (i + 1) (by omega) (by omega) (by omega)
        simp only [same_step s acc i hs c b]
        exact ih
      · rw [if_neg b]
        have hz := ext_size s i
        have ho := one_le (s.extract i s.size)
        rw [hz] at ho
        have hf : lex_one.f (s.extract i s.size) = some (c1 (lx_one (s.extract i s.size))) := by
          unfold lex_one.f
          rw [if_pos (by omega), if_pos (by omega)]
        have hst : ∀ k, lex_Words.l0 (k + 1) s acc (i : Int) = rnd k s acc i := fun k => by
          rw [step_eq k s acc i hs (by omega), tl_word c b, show s.size - (s.size - i) = i by omega]
        refine Evr.succ ?_
        simp only [hst, rnd]
        refine Evr.neg (by omega) (Evr.bindc hf ?_)
        by_cases z : (lx_one (s.extract i s.size)).2.2 = 0
        · rw [if_pos z]
          exact Evr.pos z (Evr.const rfl)
        · rw [if_neg z]
          refine Evr.neg z (Evr.pos (by omega) ?_)
          have e : wrap64 ((i : Int) + (lx_one (s.extract i s.size)).2.2) = ((i + (lx_one (s.extract i s.size)).2.2.toNat : Nat) : Int) := by rw [wrap_eq (by omega) (by omega)]; omega
          show Evr (fun k => lex_Words.l0 k s (acc ++ [⟨(lx_one (s.extract i s.size)).1, (lx_one (s.extract i s.size)).2.1, (i : Int)⟩]) (wrap64 ((i : Int) + (lx_one (s.extract i s.size)).2.2))) _
          rw [e]
          exact wp_l s hs n _ _ (by omega) (by omega) (by rw [List.length_append]; simp only [List.length_cons, List.length_nil]; omega)
    · rw [if_neg c]
      have hi : i = s.size := by omega
      have ht : tl s i = 0 := by have := tl_le s i; omega
      have hst : ∀ k, lex_Words.l0 (k + 1) s acc (i : Int) = some (acc, 0, 0) := fun k => by
        rw [step_eq k s acc i hs h2, ht]
        unfold rnd
        rw [if_pos (by omega)]
      refine Evr.succ ?_
      simp only [hst]
      exact Evr.const rfl
theorem words_ev (s : ByteArray) (hs : s.size ≤ 2200000) : Evr (fun k => lex_Words.f k s) (wd s (s.size + 1) [] 0) := by
  unfold lex_Words.f
  exact wp_l s hs (s.size + 1) [] 0 (by omega) (Nat.zero_le _) (Nat.zero_le _)
end Go.Proofs.YtngeelpfbajppaaDoor.Ly
end
section
namespace Go.Proofs.YtngeelpfbajppaaDoor.Ko
open Go Go.RowKit
set_option linter.unusedVariables false
set_option linter.unusedSimpArgs false
def val : List UInt8 → Nat
  | [] => 0
  | a :: p => a.toNat * 256 ^ p.length + val p
def repl1 (c : UInt8) (new : List UInt8) : List UInt8 → List UInt8
  | [] => []
  | b :: s => if b = c then new ++ repl1 c new s else b :: repl1 c new s
theorem replK_eq (c : UInt8) (new : List UInt8) (k : Nat) (s : List UInt8) : Lib.replaceK [c] new (k + 1) (c :: s) = new ++ Lib.replaceK [c] new k s := by
  have h : Lib.index (c :: s) [c] = ((0 : Nat) : Int) := by simp [Lib.index]
  rw [Lib.replaceK_hit _ _ _ _ 0 h]
  simp
theorem replK_ne (b c : UInt8) (h : b ≠ c) (new : List UInt8) (k : Nat) (s : List UInt8) : Lib.replaceK [c] new k (b :: s) = b :: Lib.replaceK [c] new k s := by
  cases k with
  | zero => rfl
  | succ k =>
    have hp : ([c].isPrefixOf (b :: s)) = false := by simp [List.isPrefixOf, Ne.symm h]
    by_cases hm : Lib.index s [c] = -1
    · have h1 : Lib.index (b :: s) [c] = -1 := by simp [Lib.index, hm, Ne.symm h]
      simp [Lib.replaceK, h1, hm]
    · have hge := Lib.index_ge s [c]
      obtain ⟨i, hi⟩ : ∃ i : Nat, Lib.index s [c] = i := ⟨(Lib.index s [c]).toNat, by omega⟩
      have h1 : Lib.index (b :: s) [c] = ((i + 1 : Nat) : Int) := by
        have hm' : ¬ ((i : Int) = -1) := by omega
        simp [Lib.index, hi, Ne.symm h]
        try omega
      rw [Lib.replaceK_hit _ _ _ _ _ h1, Lib.replaceK_hit _ _ _ _ _ hi]
      simp [Nat.add_right_comm]
theorem replK_one (c : UInt8) (new : List UInt8) : ∀ s : List UInt8, Lib.replaceK [c] new (Lib.count s [c]) s = repl1 c new s
  | [] => by
    cases h : Lib.count [] [c] with
    | zero => rfl
    | succ k => simp [Lib.replaceK, Lib.index, repl1]
  | b :: s => by
    have ih := replK_one c new s
    by_cases h : b = c
    · subst h
      rw [Lib.count_cons_eq, Nat.add_comm, replK_eq, ih]
      simp [repl1]
    · rw [Lib.count_cons_ne _ _ _ h, replK_ne _ _ h, ih]
      simp [repl1, h]
theorem replaceAll_one (c : UInt8) (new s : List UInt8) (hne : new ≠ [c]) : Lib.replaceAll s [c] new = repl1 c new s := by
  have h : ([c] == new) = false := by
    rw [beq_eq_false_iff_ne]
    exact fun e => hne e.symm
  simp only [Lib.replaceAll, Lib.replace, h, Bool.false_eq_true, if_false, Lib.replaceNum, show ((-1 : Int) < 0) = True by simp, true_or, if_true]
  exact replK_one c new s
end Go.Proofs.YtngeelpfbajppaaDoor.Ko
end
section
namespace Go.Proofs.YtngeelpfbajppaaDoor.Ly
open Go Go.RowKit Go.Proofs.YtngeelpfbajppaaDoorW.PrintWords Go.Proofs.YtngeelpfbajppaaDoor.PD Go.Proofs.YtngeelpfbajppaaDoor.Rk Go.Proofs.YtngeelpfbajppaaDoor.Ko
set_option linter.unusedVariables false
set_option linter.unusedSimpArgs false
theorem repl_hit (s : List UInt8) : repl1 39 [39, 39] (39 :: s) = 39 :: 39 :: repl1 39 [39, 39] s := rfl
theorem repl_miss {c : UInt8} (h : ¬ c = 39) (s : List UInt8) : repl1 39 [39, 39] (c :: s) = c :: repl1 39 [39, 39] s := by rw [repl1, if_neg h]
theorem repl39_len : ∀ s : List UInt8, (repl1 39 [39, 39] s).length ≤ 2 * s.length
  | [] => by simp [repl1]
  | c :: s => by
    have := repl39_len s
    unfold repl1
    split <;> simp only [List.length_cons, List.length_append, List.length_nil] <;> omega
def show4 (t : ByteArray) : List UInt8 := if t.size ≤ 200 then 39 :: (repl1 39 [39, 39] t.data.toList ++ [39]) else [63]
theorem show4_len (t : ByteArray) : (show4 t).length ≤ 2 * t.size + 2 := by
  unfold show4
  split
  · have := repl39_len t.data.toList
    rw [dl] at this
    simp only [List.length_cons, List.length_append, List.length_nil]
    omega
  · simp
theorem repl39 {s : ByteArray} (h : s.size ≤ 200) : ∃ t, strings_ReplaceAll.f s ⟨#[39]⟩ ⟨#[39, 39]⟩ = some t ∧ t.data.toList = repl1 39 [39, 39] s.data.toList := by
  have hc : Lib.countB s ⟨#[39]⟩ ≤ 201 := by
    have h1 := Lib.count_le s.data.toList [39]
    have h2 : s.data.toList.length = s.size := Array.length_toList
    have h3 : Lib.countB s ⟨#[39]⟩ = Lib.count s.data.toList [39] := by first | rfl | simp [Lib.countB]
    omega
  refine ⟨_, by unfold strings_ReplaceAll.f; rw [if_pos (by omega), if_pos (by decide), if_pos (by rw [show (⟨#[39, 39]⟩ : ByteArray).size = 2 from rfl]; omega)], ?_⟩
  show Lib.replaceAll s.data.toList [39] [39, 39] = _
  rw [replaceAll_one 39 [39, 39] _ (by decide)]
theorem show_p (t : ByteArray) : ∃ X, value_Show.f 4 0 t = some X ∧ X.data.toList = show4 t := by
  unfold value_Show.f value_Right.f show4
  rw [if_pos rfl, if_pos rfl, Option.bind_some]
  by_cases h : t.size ≤ 200
  · have hd : decide ((t.size : Int) ≤ 200) = true := decide_eq_true (by omega)
    rw [hd, if_pos h, if_pos rfl, if_neg (by decide), if_neg (by decide), if_pos rfl]
    obtain ⟨x, e1, e2⟩ := repl39 h
    have hl := repl39_len t.data.toList
    rw [dl] at hl
    have ht : x.size ≤ 400 := by rw [← dl, e2]; omega
    rw [e1, Option.bind_some, if_pos (by omega), if_pos (by omega)]
    refine ⟨_, rfl, ?_⟩
    rw [ByteArray.data_append, ByteArray.data_append, Array.toList_append, Array.toList_append, e2]
    rfl
  · have hd : decide ((t.size : Int) ≤ 200) = false := decide_eq_false (by omega)
    rw [hd, if_neg h, if_neg (by decide)]
    exact ⟨_, rfl, rfl⟩
theorem rd35 {l : List S35} {i : Nat} (h : i < l.length) : rd_T35 l (i : Int) = l[i] := by simp [rd_T35, h]
def wt (y : S35) : List UInt8 := if y.f0 = 2 then show4 y.f1 else y.f1.data.toList
theorem wt_len (y : S35) : (wt y).length ≤ 2 * y.f1.size + 2 := by
  unfold wt
  split
  · exact show4_len _
  · rw [dl]; omega
def tailT (l : List S35) : List UInt8 := (l.map fun y => 32 :: wt y).flatten
def joinT : List S35 → List UInt8
  | [] => []
  | y :: l => wt y ++ tailT l
def sz (l : List S35) : Nat := (l.map fun y => y.f1.size).sum
theorem sz_cons (y : S35) (l : List S35) : sz (y :: l) = y.f1.size + sz l := by simp [sz]
theorem tailT_len : ∀ l : List S35, (tailT l).length ≤ 2 * sz l + 3 * l.length
  | [] => by simp [tailT]
  | y :: l => by
    have h1 := wt_len y
    have h2 := tailT_len l
    simp only [tailT, List.map_cons, List.flatten_cons, List.length_append, List.length_cons, sz_cons] at h2 ⊢
    omega
theorem joinT_len (l : List S35) : (joinT l).length ≤ 2 * sz l + 3 * l.length := by
  cases l with
  | nil => simp [joinT]
  | cons y l =>
    have h1 := wt_len y
    have h2 := tailT_len l
    simp only [joinT, List.length_append, List.length_cons, sz_cons]
    omega
theorem join_T (l : List S35) (t : List ByteArray) (h : t.map (·.data.toList) = l.map wt) : Lib.join (t.map (·.data.toList)) [32] = joinT l := by
  rw [h]
  cases l with
  | nil => rfl
  | cons v l =>
    rw [List.map_cons, Lib.join_cons]
    simp [joinT, tailT, Lib.joinTail, List.map_map, Function.comp_def]
theorem word_p (y : S35) : ∃ X : ByteArray, X.data.toList = wt y ∧ (∀ {g : ByteArray → Nat → Option ByteArray} {v : ByteArray}, Evr (g X) v → Evr (fun k => if y.f0 = 2 then (value_Show.f 4 0 y.f1).bind fun t => g t k else g y.f1 k) v) := by
  unfold wt
  by_cases c : y.f0 = 2
  · obtain ⟨X, h1, h2⟩ := show_p y.f1
    exact ⟨X, by rw [if_pos c]; exact h2, fun hg => Evr.pos c (Evr.bindc h1 hg)⟩
  · exact ⟨y.f1, by rw [if_neg c], fun hg => Evr.neg c hg⟩
theorem text_l (l : List S35) (hl : l.length ≤ 2000000) (hz : sz l ≤ 100000000) : ∀ n i (acc : List ByteArray), n + i = l.length → acc.map (·.data.toList) = (l.take i).map wt →
    ∃ X, Evr (fun k => lex_Text.l0 k acc l (l.length : Int) (i : Int)) X ∧ X.data.toList = joinT l
  | 0, i, acc, hn, ha => by
    rw [List.take_of_length_le (by omega)] at ha
    have hj := join_T l acc ha
    have hal : acc.length = l.length := by
      have := congrArg List.length ha
      rwa [List.length_map, List.length_map] at this
    have hlen := joinT_len l
    have hJ : strings_Join.f acc (⟨#[32]⟩ : ByteArray) = some ⟨(joinT l).toArray⟩ := by
      unfold strings_Join.f
      rw [if_pos (by omega)]
      show (if (Lib.join (acc.map (·.data.toList)) [32]).length ≤ 140737488355328 then some (⟨(Lib.join (acc.map (·.data.toList)) [32]).toArray⟩ : ByteArray) else none) = _
      rw [hj, if_pos (by omega)]
    refine ⟨⟨(joinT l).toArray⟩, Evr.succ ?_, rfl⟩
    simp only [lex_Text.l0]
    exact Evr.neg (by omega) (Evr.bindc hJ (Evr.const rfl))
  | n + 1, i, acc, hn, ha => by
    have c : i < l.length := by omega
    obtain ⟨Y, e1, e2⟩ := word_p l[i]
    have hal : acc.length = i := by
      have := congrArg List.length ha
      rw [List.length_map, List.length_map, List.length_take] at this
      omega
    obtain ⟨X, h1, h2⟩ := text_l l hl hz n (i + 1) (acc ++ [Y]) (by omega) (by rw [List.map_append, ha, List.take_succ_eq_append_getElem c, List.map_append]; simp [e1])
    refine ⟨X, Evr.succ ?_, h2⟩
    simp only [lex_Text.l0]
    rw [rd35 c, wrap_nat (by omega)]
    refine Evr.pos (by omega) (Evr.pos (by omega) (Evr.pos (by omega) ?_))
    exact e2 (g := fun t k => if acc.length < 8796093022208 then lex_Text.l0 k (acc ++ [t]) l (l.length : Int) ((i + 1 : Nat) : Int) else none) (Evr.pos (by omega) h1)
theorem text_ev (l : List S35) (hl : l.length ≤ 2000000) (hz : sz l ≤ 100000000) : ∃ X, Evr (fun k => lex_Text.f k l) X ∧ X.data.toList = joinT l := by
  unfold lex_Text.f
  exact text_l l hl hz l.length 0 [] rfl rfl
end Go.Proofs.YtngeelpfbajppaaDoor.Ly
end
section
namespace Go.Proofs.YtngeelpfbajppaaDoor.Ly
open Go Go.RowKit Go.Proofs.YtngeelpfbajppaaDoorW.PrintWords Go.Proofs.YtngeelpfbajppaaDoor.PD Go.Proofs.YtngeelpfbajppaaDoor.Rk Go.Proofs.YtngeelpfbajppaaDoor.Ko
set_option linter.unusedVariables false
set_option linter.unusedSimpArgs false
def o (L : List UInt8) : Int × ByteArray × Int := lx_one ⟨L.toArray⟩
theorem o_s (s : ByteArray) : o s.data.toList = lx_one s := congrArg lx_one (ba_ext rfl)
theorem o_len (L : List UInt8) : 0 ≤ (o L).2.2 ∧ (o L).2.2 ≤ L.length := by
  have h := one_le ⟨L.toArray⟩
  rw [← dl] at h
  exact h
theorem ext0 (L : List UInt8) (n : Nat) : (ByteArray.extract ⟨L.toArray⟩ 0 n).data.toList = L.take n := by
  rw [Lib.extract_data]
  simp
def ba (L : List UInt8) : ByteArray := ⟨L.toArray⟩
theorem ba_size (L : List UInt8) : (ba L).size = L.length := by rw [← dl]; rfl
theorem ext_ba (L : List UInt8) (n : Nat) : ByteArray.extract ⟨L.toArray⟩ 0 n = ba (L.take n) := ba_ext (ext0 L n)
theorem o_eq (b : UInt8) (l : List UInt8) : o (b :: l) =
    if lx_pL (b.toNat : Int) = true then (if lx_run (rp true) (b :: l) ≤ 20 then (0, ba ((b :: l).take (lx_run (rp true) (b :: l))), (lx_run (rp true) (b :: l) : Int)) else (0, ⟨#[]⟩, 0))
    else if lx_pF (b.toNat : Int) = true then (if lx_run (rp false) (b :: l) ≤ 19 then (1, ba ((b :: l).take (lx_run (rp false) (b :: l))), (lx_run (rp false) (b :: l) : Int)) else (0, ⟨#[]⟩, 0))
    else if b = 39 ∧ (lx_qr (lx_q l)).1.size ≤ 200 then (2, (lx_qr (lx_q l)).1, (lx_qr (lx_q l)).2)
    else mk ⟨(b :: l).toArray⟩ := by
  unfold o
  rw [one_eq ⟨(b :: l).toArray⟩ b l rfl, ext_ba, ext_ba]
def Stop (R : List UInt8) : Prop := R = [] ∨ ∃ T, R = 32 :: T
theorem rp32 (name : Bool) : rp name 32 = false := by cases name <;> rfl
theorem run_stop (p : UInt8 → Bool) (hp : p 32 = false) {R : List UInt8} (hR : Stop R) : ∀ L, lx_run p (L ++ R) = lx_run p L
  | [] => by
    rcases hR with rfl | ⟨T, rfl⟩
    · rfl
    · simp [lx_run, hp]
  | b :: L => by
    have := run_stop p hp hR L
    simp only [List.cons_append, lx_run, this]
theorem run_take (p : UInt8 → Bool) : ∀ L, lx_run p (L.take (lx_run p L)) = lx_run p L
  | [] => rfl
  | b :: L => by
    have := run_take p L
    by_cases h : p b = true
    · rw [lx_hit h, List.take_succ_cons, lx_hit h, this]
    · have h' : p b = false := by simpa using h
      rw [lx_miss h']; rfl
theorem take_app {L R : List UInt8} {n : Nat} (h : n ≤ L.length) : (L ++ R).take n = L.take n := List.take_append_of_le_length h
theorem q_stop {R : List UInt8} (hR : Stop R) : ∀ (l : List UInt8) (x : List UInt8 × Nat), lx_q l = some x → lx_q (l ++ R) = some x
  | [], x, h => by simp [lx_q] at h
  | [b], x, h => by
    by_cases c : b = 39
    · subst c
      rw [q39n] at h
      rcases hR with rfl | ⟨T, rfl⟩
      · rw [← h]; rfl
      · rw [← h]; exact q39e (by decide) T
    · rw [qne c] at h
      simp [lx_q] at h
  | b :: c :: l, x, h => by
    by_cases e : b = 39
    · subst e
      by_cases f : c = 39
      · subst f
        rw [q39] at h
        obtain ⟨y, hy, rfl⟩ := Option.map_eq_some_iff.1 h
        rw [List.cons_append, List.cons_append, q39, q_stop hR l y hy]; rfl
      · rw [q39e f] at h
        rw [List.cons_append, List.cons_append, q39e f, h]
    · rw [qne e] at h
      obtain ⟨y, hy, rfl⟩ := Option.map_eq_some_iff.1 h
      rw [List.cons_append, qne e, q_stop hR (c :: l) y hy]; rfl
theorem q_repl {R : List UInt8} (hR : Stop R) : ∀ t : List UInt8, lx_q (repl1 39 [39, 39] t ++ 39 :: R) = some (t, (repl1 39 [39, 39] t).length + 1)
  | [] => by
    show lx_q (39 :: R) = _
    rcases hR with rfl | ⟨T, rfl⟩
    · rfl
    · exact q39e (by decide) T
  | c :: t => by
    have ih := q_repl hR t
    by_cases h : c = 39
    · subst h
      rw [repl_hit]
      simp only [List.cons_append, List.length_cons]
      rw [q39, ih]; rfl
    · rw [repl_miss h]
      simp only [List.cons_append, List.length_cons]
      rw [qne h, ih]; rfl
theorem at_lt (s : ByteArray) : ∀ n i, lx_at s n i = -1 ∨ ∃ j : Nat, i ≤ j ∧ j < i + n ∧ lx_at s n i = (j : Int)
  | 0, i => .inl rfl
  | n + 1, i => by
    unfold lx_at
    split
    · exact .inr ⟨i, Nat.le_refl _, by omega, rfl⟩
    · rcases at_lt s n (i + 1) with h | ⟨j, h1, h2, h3⟩
      · exact .inl h
      · exact .inr ⟨j, by omega, by omega, h3⟩
def mkv (i : Int) : Int × ByteArray × Int := if i = -1 then (0, ⟨#[]⟩, 0) else (3, lx_marks.getD i.toNat ByteArray.empty, ((lx_marks.getD i.toNat ByteArray.empty).size : Int))
theorem mk_v (s : ByteArray) : mk s = mkv (lx_at s 12 0) := rfl
theorem mk_stop {R : List UInt8} (hR : Stop R) (b : UInt8) (l : List UInt8) : mk ⟨((b :: l) ++ R).toArray⟩ = mk ⟨(b :: l).toArray⟩ := by
  rcases hR with rfl | ⟨T, rfl⟩
  · rw [List.append_nil]
  rw [mk_v, mk_v]
  cases l with
  | nil =>
    rw [at_2 ⟨(([b] : List UInt8) ++ 32 :: T).toArray⟩ b 32 T rfl, at_1 ⟨([b] : List UInt8).toArray⟩ b rfl]
    simp
  | cons c l => rw [at_2 ⟨((b :: c :: l) ++ 32 :: T).toArray⟩ b c (l ++ 32 :: T) rfl, at_2 ⟨(b :: c :: l).toArray⟩ b c l rfl]
theorem mk_39 (l : List UInt8) : mk ⟨(39 :: l).toArray⟩ = (0, ⟨#[]⟩, 0) := by
  rw [mk_v]
  cases l with
  | nil => rw [at_1 ⟨([39] : List UInt8).toArray⟩ 39 rfl]; rfl
  | cons c l => rw [at_2 ⟨(39 :: c :: l).toArray⟩ 39 c l rfl]; rfl
theorem o_stop {R : List UInt8} (hR : Stop R) (b : UInt8) (l : List UInt8) (h : (o (b :: l)).2.2 ≠ 0) : o ((b :: l) ++ R) = o (b :: l) := by
  have hc : (b :: l) ++ R = b :: (l ++ R) := rfl
  have h1 := run_stop (rp true) (rp32 true) hR (b :: l)
  have h2 := run_stop (rp false) (rp32 false) hR (b :: l)
  have l1 := lx_run_le (rp true) (b :: l)
  have l2 := lx_run_le (rp false) (b :: l)
  have t1 : (b :: (l ++ R)).take (lx_run (rp true) (b :: l)) = (b :: l).take (lx_run (rp true) (b :: l)) := take_app (L := b :: l) l1
  have t2 : (b :: (l ++ R)).take (lx_run (rp false) (b :: l)) = (b :: l).take (lx_run (rp false) (b :: l)) := take_app (L := b :: l) l2
  rw [hc] at h1 h2
  rw [hc, o_eq, o_eq, h1, h2, t1, t2]
  rw [o_eq] at h
  by_cases c1 : lx_pL (b.toNat : Int) = true
  · rw [if_pos c1, if_pos c1]
  rw [if_neg c1, if_neg c1]
  rw [if_neg c1] at h
  by_cases c2 : lx_pF (b.toNat : Int) = true
  · rw [if_pos c2, if_pos c2]
  rw [if_neg c2, if_neg c2]
  rw [if_neg c2] at h
  by_cases c3 : b = 39
  · subst c3
    cases hq : lx_q l with
    | none =>
      rw [hq] at h
      exact absurd (by rw [if_pos ⟨rfl, by decide⟩]; rfl) h
    | some x => rw [q_stop hR l x hq]
                by_cases c4 : (lx_qr (some x)).1.size ≤ 200
                · rw [if_pos ⟨rfl, c4⟩, if_pos ⟨rfl, c4⟩]
                · rw [if_neg (fun h => c4 h.2), if_neg (fun h => c4 h.2), mk_39, mk_39]
  · rw [if_neg (fun h => c3 h.1), if_neg (fun h => c3 h.1)]
    exact mk_stop hR b l
def Tok (y : S35) : Prop := (∀ R, Stop R → o (wt y ++ R) = (y.f0, y.f1, ((wt y).length : Int))) ∧ (∃ b l, wt y = b :: l ∧ blank b = false)
theorem wt_n {k : Int} (hk : ¬ k = 2) (t : ByteArray) (p : Int) : wt ⟨k, t, p⟩ = t.data.toList := by unfold wt; rw [if_neg hk]
theorem tok_mark (p : Int) : ∀ j : Nat, j < 12 → Tok ⟨3, lx_marks.getD j ByteArray.empty, p⟩ := by
  intro j hj
  have key : ∀ (b : UInt8) (l : List UInt8) (M : ByteArray), M.data.toList = b :: l → lx_pL (b.toNat : Int) = false → lx_pF (b.toNat : Int) = false → ¬ b = 39 → blank b = false → mk ⟨(b :: l).toArray⟩ = (3, M, (M.size : Int)) → Tok ⟨3, M, p⟩ := by
    intro b l M hM c1 c2 c3 c4 hm
    unfold Tok
    rw [wt_n (by decide)]
    simp only
    rw [hM]
    refine ⟨fun R hR => ?_, b, l, rfl, c4⟩
    rw [List.cons_append, o_eq, c1, c2, if_neg (by decide), if_neg (by decide), if_neg (fun h => c3 h.1)]
    have := mk_stop hR b l
    rw [List.cons_append] at this
    rw [this, hm, ← dl, hM]
  have k1 : ∀ (b : UInt8) (i : Nat), m1 b = (i : Int) → lx_marks.getD i ByteArray.empty = ba [b] → lx_pL (b.toNat : Int) = false → lx_pF (b.toNat : Int) = false → ¬ b = 39 → blank b = false → Tok ⟨3, lx_marks.getD i ByteArray.empty, p⟩ := by
    intro b i hi hM c1 c2 c3 c4
    refine key b [] _ (by rw [hM]; rfl) c1 c2 c3 c4 ?_
    rw [mk_v, at_1 ⟨([b] : List UInt8).toArray⟩ b rfl, hi]
    unfold mkv
    rw [if_neg (by omega), Int.toNat_natCast]
  match j, hj with
  | 0, _ => exact key 60 [61] _ rfl rfl rfl (by decide) rfl rfl
  | 1, _ => exact key 62 [61] _ rfl rfl rfl (by decide) rfl rfl
  | 2, _ => exact key 60 [62] _ rfl rfl rfl (by decide) rfl rfl
  | 3, _ => exact k1 40 3 rfl rfl rfl rfl (by decide) rfl
  | 4, _ => exact k1 41 4 rfl rfl rfl rfl (by decide) rfl
  | 5, _ => exact k1 44 5 rfl rfl rfl rfl (by decide) rfl
  | 6, _ => exact k1 61 6 rfl rfl rfl rfl (by decide) rfl
  | 7, _ => exact k1 60 7 rfl rfl rfl rfl (by decide) rfl
  | 8, _ => exact k1 62 8 rfl rfl rfl rfl (by decide) rfl
  | 9, _ => exact k1 43 9 rfl rfl rfl rfl (by decide) rfl
  | 10, _ => exact k1 45 10 rfl rfl rfl rfl (by decide) rfl
  | 11, _ => exact k1 42 11 rfl rfl rfl rfl (by decide) rfl
theorem nb_L {b : UInt8} (h : lx_pL (b.toNat : Int) = true) : blank b = false := by
  cases hb : blank b with
  | false => rfl
  | true =>
    simp only [blank, List.contains_cons, List.contains_nil, Bool.or_false, Bool.or_eq_true, beq_iff_eq] at hb
    rcases hb with rfl | rfl | rfl <;> revert h <;> decide
theorem nb_F {b : UInt8} (h : lx_pF (b.toNat : Int) = true) : blank b = false := by
  cases hb : blank b with
  | false => rfl
  | true =>
    simp only [blank, List.contains_cons, List.contains_nil, Bool.or_false, Bool.or_eq_true, beq_iff_eq] at hb
    rcases hb with rfl | rfl | rfl <;> revert h <;> decide
theorem o_tok (b : UInt8) (l : List UInt8) (p : Int) (h : (o (b :: l)).2.2 ≠ 0) : Tok ⟨(o (b :: l)).1, (o (b :: l)).2.1, p⟩ ∧ (o (b :: l)).2.1.size ≤ 200 := by
  rw [o_eq] at h ⊢
  have run : ∀ (name : Bool) (k : Int) (m : Nat), ¬ k = 2 → m ≤ 200 → rp name b = true → blank b = false → lx_run (rp name) (b :: l) ≤ m →
      (∀ l', lx_run (rp name) (b :: l') ≤ m → o (b :: l') = (k, ba ((b :: l').take (lx_run (rp name) (b :: l'))), (lx_run (rp name) (b :: l') : Int))) →
      Tok ⟨k, ba ((b :: l).take (lx_run (rp name) (b :: l))), p⟩ ∧ (ba ((b :: l).take (lx_run (rp name) (b :: l)))).size ≤ 200 := by
    intro name k m hk hm hb hn hr ho
    have hh := lx_hit (l := l) hb
    have ht : (b :: l).take (lx_run (rp name) (b :: l)) = b :: l.take (lx_run (rp name) l) := by rw [hh, List.take_succ_cons]
    have hrt := run_take (rp name) (b :: l)
    have hle := lx_run_le (rp name) (b :: l)
    have hlen : ((b :: l).take (lx_run (rp name) (b :: l))).length = lx_run (rp name) (b :: l) := by rw [List.length_take]; omega
    refine ⟨⟨fun R hR => ?_, b, l.take (lx_run (rp name) l), ?_, hn⟩, by rw [ba_size, hlen]; omega⟩
    · rw [wt_n hk]
      show o ((b :: l).take (lx_run (rp name) (b :: l)) ++ R) = (k, ba ((b :: l).take (lx_run (rp name) (b :: l))), (((b :: l).take (lx_run (rp name) (b :: l))).length : Int))
      rw [hlen]
      have hs := run_stop (rp name) (rp32 name) hR ((b :: l).take (lx_run (rp name) (b :: l)))
      rw [hrt] at hs
      generalize hG : lx_run (rp name) (b :: l) = G at *
      rw [ht] at hs hlen hrt ⊢
      rw [List.cons_append] at hs ⊢
      rw [ho _ (by rw [hs]; exact hr), hs]
      have : (b :: (l.take (lx_run (rp name) l) ++ R)).take G = b :: l.take (lx_run (rp name) l) := by
        rw [← List.cons_append, take_app (by omega), List.take_of_length_le (by omega)]
      rw [this]
    · rw [wt_n hk]
      exact ht
  by_cases c1 : lx_pL (b.toNat : Int) = true
  · rw [if_pos c1] at h ⊢
    by_cases n : lx_run (rp true) (b :: l) ≤ 20
    · rw [if_pos n] at h ⊢
      exact run true 0 20 (by decide) (by decide) (by simp [rp, lx_pN, c1]) (nb_L c1) n (fun l' hl' => by rw [o_eq, if_pos c1, if_pos hl'])
    · rw [if_neg n] at h; exact absurd rfl h
  rw [if_neg c1] at h ⊢
  by_cases c2 : lx_pF (b.toNat : Int) = true
  · rw [if_pos c2] at h ⊢
    by_cases n : lx_run (rp false) (b :: l) ≤ 19
    · rw [if_pos n] at h ⊢
      exact run false 1 19 (by decide) (by decide) (by simp [rp, c2]) (nb_F c2) n (fun l' hl' => by rw [o_eq, if_neg c1, if_pos c2, if_pos hl'])
    · rw [if_neg n] at h; exact absurd rfl h
  rw [if_neg c2] at h ⊢
  by_cases c3 : b = 39 ∧ (lx_qr (lx_q l)).1.size ≤ 200
  · obtain ⟨rfl, c4⟩ := c3
    rw [if_pos ⟨rfl, c4⟩] at h ⊢
    cases hq : lx_q l with
    | none => rw [hq] at h; exact absurd rfl h
    | some x =>
      rw [hq] at c4
      have hx : x.1.length ≤ 200 := by have := ba_size x.1; unfold ba at this; simp only [lx_qr] at c4; omega
      have hw : wt ⟨2, ba x.1, p⟩ = 39 :: (repl1 39 [39, 39] x.1 ++ [39]) := by
        unfold wt show4
        rw [if_pos rfl]
        show (if (ba x.1).size ≤ 200 then _ else _) = _
        rw [ba_size, if_pos hx]
        rfl
      refine ⟨⟨fun R hR => ?_, 39, _, hw, by decide⟩, c4⟩
      show o (wt ⟨2, ba x.1, p⟩ ++ R) = (2, ba x.1, ((wt ⟨2, ba x.1, p⟩).length : Int))
      rw [hw, List.cons_append, List.append_assoc, o_eq, if_neg c1, if_neg c2]
      rw [show ([39] : List UInt8) ++ R = 39 :: R from rfl, q_repl hR]
      have hz : (lx_qr (some (x.1, (repl1 39 [39, 39] x.1).length + 1))).1.size ≤ 200 := by
        have := ba_size x.1
        simp only [lx_qr]
        unfold ba at this
        omega
      rw [if_pos ⟨rfl, hz⟩]
      show ((2, ba x.1, (((repl1 39 [39, 39] x.1).length + 1 : Nat) : Int) + 1) : Int × ByteArray × Int) = _
      simp only [List.length_cons, List.length_append, List.length_nil]
      rfl
  · rw [if_neg c3, mk_v] at h ⊢
    rcases at_lt ⟨(b :: l).toArray⟩ 12 0 with e | ⟨j, e1, e2, e3⟩
    · rw [e] at h; exact absurd rfl h
    · rw [e3]
      have hv : mkv (j : Int) = (3, lx_marks.getD j ByteArray.empty, ((lx_marks.getD j ByteArray.empty).size : Int)) := by
        unfold mkv
        rw [if_neg (by omega), Int.toNat_natCast]
      rw [hv]
      refine ⟨tok_mark p j (by omega), ?_⟩
      have : ∀ j : Nat, j < 12 → (lx_marks.getD j ByteArray.empty).size ≤ 200 := by
        intro j hj
        match j, hj with
        | 0, _ => decide
        | 1, _ => decide
        | 2, _ => decide
        | 3, _ => decide
        | 4, _ => decide
        | 5, _ => decide
        | 6, _ => decide
        | 7, _ => decide
        | 8, _ => decide
        | 9, _ => decide
        | 10, _ => decide
        | 11, _ => decide
      exact this j (by omega)
inductive Wd : List UInt8 → Nat → List S35 → Option Nat → Prop
  | nil (p : Nat) : Wd [] p [] none
  | blank {b : UInt8} {L : List UInt8} {p : Nat} {l : List S35} {e : Option Nat} (hb : Ly.blank b = true) (h : Wd L (p + 1) l e) : Wd (b :: L) p l e
  | bad {b : UInt8} {L : List UInt8} {p : Nat} (hb : Ly.blank b = false) (hz : (o (b :: L)).2.2 = 0) : Wd (b :: L) p [] (some p)
  | word {b : UInt8} {L : List UInt8} {p : Nat} {l : List S35} (hb : Ly.blank b = false) (hz : (o (b :: L)).2.2 ≠ 0) (h : Wd ((b :: L).drop (o (b :: L)).2.2.toNat) (p + (o (b :: L)).2.2.toNat) l none) : Wd (b :: L) p (⟨(o (b :: L)).1, (o (b :: L)).2.1, (p : Int)⟩ :: l) none
  | after {b : UInt8} {L : List UInt8} {p q : Nat} (hb : Ly.blank b = false) (hz : (o (b :: L)).2.2 ≠ 0) (h : Wd ((b :: L).drop (o (b :: L)).2.2.toNat) (p + (o (b :: L)).2.2.toNat) [] (some q)) : Wd (b :: L) p [] (some q)
theorem Wd.ex : ∀ (n : Nat) (L : List UInt8) (p : Nat), L.length ≤ n → ∃ l e, Wd L p l e ∧ (e ≠ none → l = [])
  | _, [], p, _ => ⟨[], none, .nil p, fun h => absurd rfl h⟩
  | 0, b :: L, p, h => by simp at h
  | n + 1, b :: L, p, h => by
    rw [List.length_cons] at h
    by_cases hb : Ly.blank b = true
    · obtain ⟨l, e, h1, h2⟩ := Wd.ex n L (p + 1) (by omega)
      exact ⟨l, e, .blank hb h1, h2⟩
    · have hb' : Ly.blank b = false := by simpa using hb
      by_cases hz : (o (b :: L)).2.2 = 0
      · exact ⟨[], some p, .bad hb' hz, fun _ => rfl⟩
      · have hl := o_len (b :: L)
        obtain ⟨l, e, h1, h2⟩ := Wd.ex n ((b :: L).drop (o (b :: L)).2.2.toNat) (p + (o (b :: L)).2.2.toNat) (by rw [List.length_drop, List.length_cons]; omega)
        cases e with
        | none => exact ⟨_, none, .word hb' hz h1, fun h => absurd rfl h⟩
        | some q =>
          have := h2 (by simp)
          subst this
          exact ⟨[], some q, .after hb' hz h1, fun _ => rfl⟩
def res (acc l : List S35) : Option Nat → List S35 × Int × Int
  | none => (acc ++ l, 0, 0)
  | some q => ([], (q : Int), 81)
theorem Wd.wd {L : List UInt8} {p : Nat} {l : List S35} {e : Option Nat} (h : Wd L p l e) : ∀ (s : ByteArray) (n : Nat) (acc : List S35), s.data.toList.drop p = L → s.size < n + p → wd s n acc p = res acc l e := by
  have nx : ∀ (s : ByteArray) (p : Nat) (b : UInt8) (L : List UInt8), s.data.toList.drop p = b :: L → p < s.size ∧ s.data.toList.getD p 0 = b ∧ o (b :: L) = lx_one (s.extract p s.size) := by
    intro s p b L hd
    have hp : p < s.size := by
      have := congrArg List.length hd
      rw [List.length_drop, dl, List.length_cons] at this
      omega
    have hp' : p < s.data.toList.length := by rw [dl]; exact hp
    refine ⟨hp, ?_, ?_⟩
    · rw [getD_get hp']
      rw [List.drop_eq_getElem_cons hp'] at hd
      exact (List.cons.inj hd).1
    · rw [← hd, ← ext_drop]
      exact o_s _
  induction h with
  | nil p =>
    intro s n acc hd hn
    have hp : s.size ≤ p := by
      have := congrArg List.length hd
      rw [List.length_drop, dl, List.length_nil] at this
      omega
    cases n with
    | zero => simp [Ly.wd, res]
    | succ n => unfold Ly.wd; rw [if_neg (by omega)]; simp [res]
  | @blank b L p l e hb h ih =>
    intro s n acc hd hn
    obtain ⟨h1, h2, h3⟩ := nx s p b L hd
    cases n with
    | zero => omega
    | succ n =>
      unfold Ly.wd
      rw [if_pos h1, h2, if_pos hb]
      refine ih s n acc ?_ (by omega)
      rw [← List.drop_drop, hd]; rfl
  | @bad b L p hb hz =>
    intro s n acc hd hn
    obtain ⟨h1, h2, h3⟩ := nx s p b L hd
    cases n with
    | zero => omega
    | succ n =>
      unfold Ly.wd
      rw [if_pos h1, h2, if_neg (by rw [hb]; decide), ← h3, if_pos hz]
      rfl
  | @word b L p l hb hz h ih =>
    intro s n acc hd hn
    obtain ⟨h1, h2, h3⟩ := nx s p b L hd
    have hl := o_len (b :: L)
    cases n with
    | zero => omega
    | succ n =>
      unfold Ly.wd
      rw [if_pos h1, h2, if_neg (by rw [hb]; decide), ← h3, if_neg hz, ih s n _ (by rw [← List.drop_drop, hd]) (by omega)]
      simp [res]
  | @after b L p q hb hz h ih =>
    intro s n acc hd hn
    obtain ⟨h1, h2, h3⟩ := nx s p b L hd
    have hl := o_len (b :: L)
    cases n with
    | zero => omega
    | succ n =>
      unfold Ly.wd
      rw [if_pos h1, h2, if_neg (by rw [hb]; decide), ← h3, if_neg hz, ih s n _ (by rw [← List.drop_drop, hd]) (by omega)]
      rfl
theorem words_wd (s : ByteArray) (hs : s.size ≤ 2200000) {l : List S35} {e : Option Nat} (h : Wd s.data.toList 0 l e) : Evr (fun k => lex_Words.f k s) (res [] l e) := by
  have := words_ev s hs
  rw [h.wd s (s.size + 1) [] rfl (by omega)] at this
  exact this
theorem Wd.places {L : List UInt8} {p : Nat} {l : List S35} {e : Option Nat} (h : Wd L p l e) : (∀ y ∈ l, (p : Int) ≤ y.f2 ∧ y.f2 < ((p + L.length : Nat) : Int)) ∧ l.Pairwise (fun x y => x.f2 < y.f2) ∧ l.length ≤ L.length ∧ (∀ y ∈ l, Tok y ∧ y.f1.size ≤ 200) ∧ (∀ q, e = some q → p ≤ q ∧ q < p + L.length) := by
  induction h with
  | nil p => exact ⟨by simp, .nil, Nat.le_refl _, by simp, by simp⟩
  | @blank b L p l e hb h ih =>
    obtain ⟨h1, h2, h3, h4, h5⟩ := ih
    refine ⟨fun y hy => ?_, h2, by rw [List.length_cons]; omega, h4, fun q hq => ?_⟩
    · have := h1 y hy
      rw [List.length_cons]; omega
    · have := h5 q hq
      rw [List.length_cons]; omega
  | @bad b L p hb hz => exact ⟨by simp, .nil, Nat.zero_le _, by simp, fun q hq => by obtain rfl := Option.some.inj hq; rw [List.length_cons]; omega⟩
  | @word b L p l hb hz h ih =>
    obtain ⟨h1, h2, h3, h4, h5⟩ := ih
    have hl := o_len (b :: L)
    have ho := o_tok b L (p : Int) hz
    rw [List.length_cons] at hl
    rw [List.length_drop, List.length_cons] at h3
    refine ⟨fun y hy => ?_, List.pairwise_cons.2 ⟨fun y hy => ?_, h2⟩, by rw [List.length_cons, List.length_cons]; omega, fun y hy => ?_, by simp⟩
    · rcases List.mem_cons.1 hy with rfl | hy
      · rw [List.length_cons]; exact ⟨Int.le_refl _, by simp only; omega⟩
      · have := h1 y hy
        rw [List.length_drop] at this
        rw [List.length_cons] at this ⊢
        omega
    · have := h1 y hy
      simp only
      omega
    · rcases List.mem_cons.1 hy with rfl | hy
      · exact ho
      · exact h4 y hy
  | @after b L p q hb hz h ih =>
    obtain ⟨h1, h2, h3, h4, h5⟩ := ih
    have hl := o_len (b :: L)
    rw [List.length_cons] at hl
    refine ⟨by simp, .nil, Nat.zero_le _, by simp, fun q' hq => ?_⟩
    have := h5 q' hq
    rw [List.length_drop] at this
    rw [List.length_cons] at this ⊢
    omega
def AlikeW (l m : List S35) : Prop := l.map (fun y => (y.f0, y.f1)) = m.map (fun y => (y.f0, y.f1))
theorem tail_again : ∀ (l : List S35), (∀ y ∈ l, Tok y) → ∀ p, ∃ m, Wd (tailT l) p m none ∧ AlikeW l m
  | [], _, p => ⟨[], .nil p, rfl⟩
  | y :: l, h, p => by
    obtain ⟨⟨hk, b, L, hw, hb⟩⟩ := (⟨h y (List.mem_cons_self)⟩ : Nonempty (Tok y))
    obtain ⟨m, h1, h2⟩ := tail_again l (fun z hz => h z (List.mem_cons_of_mem _ hz)) (p + 1 + (wt y).length)
    have hR : Stop (tailT l) := by
      cases l with
      | nil => exact .inl rfl
      | cons z l => exact .inr ⟨wt z ++ tailT l, by simp only [tailT, List.map_cons, List.flatten_cons, List.cons_append]⟩
    have ho := hk (tailT l) hR
    have ht : tailT (y :: l) = 32 :: (wt y ++ tailT l) := by simp only [tailT, List.map_cons, List.flatten_cons, List.cons_append]
    refine ⟨⟨y.f0, y.f1, ((p + 1 : Nat) : Int)⟩ :: m, ?_, ?_⟩
    · rw [ht]
      refine .blank (by decide) ?_
      have hlen : (wt y).length ≠ 0 := by rw [hw]; simp
      have hd : (wt y ++ tailT l).drop (wt y).length = tailT l := by rw [List.drop_append_of_le_length (Nat.le_refl _), List.drop_length, List.nil_append]
      have hcons : wt y ++ tailT l = b :: (L ++ tailT l) := by rw [hw, List.cons_append]
      rw [hcons] at ho hd ⊢
      have hwd := Wd.word (p := p + 1) (l := m) hb (by rw [ho]; simp only; omega) (by rw [ho]; simp only [Int.toNat_natCast]; rw [hd]; exact h1)
      rw [ho] at hwd
      exact hwd
    · unfold AlikeW at h2 ⊢
      rw [List.map_cons, List.map_cons, h2]
theorem again (l : List S35) (h : ∀ y ∈ l, Tok y) : ∃ m, Wd (joinT l) 0 m none ∧ AlikeW l m := by
  cases l with
  | nil => exact ⟨[], .nil 0, rfl⟩
  | cons y l =>
    obtain ⟨⟨hk, b, L, hw, hb⟩⟩ := (⟨h y (List.mem_cons_self)⟩ : Nonempty (Tok y))
    obtain ⟨m, h1, h2⟩ := tail_again l (fun z hz => h z (List.mem_cons_of_mem _ hz)) (0 + (wt y).length)
    have hR : Stop (tailT l) := by
      cases l with
      | nil => exact .inl rfl
      | cons z l => exact .inr ⟨wt z ++ tailT l, by simp only [tailT, List.map_cons, List.flatten_cons, List.cons_append]⟩
    have ho := hk (tailT l) hR
    refine ⟨⟨y.f0, y.f1, ((0 : Nat) : Int)⟩ :: m, ?_, ?_⟩
    · have hlen : (wt y).length ≠ 0 := by rw [hw]; simp
      have hd : (wt y ++ tailT l).drop (wt y).length = tailT l := by rw [List.drop_append_of_le_length (Nat.le_refl _), List.drop_length, List.nil_append]
      have hcons : wt y ++ tailT l = b :: (L ++ tailT l) := by rw [hw, List.cons_append]
      show Wd (wt y ++ tailT l) 0 _ none
      rw [hcons] at ho hd ⊢
      have hwd := Wd.word (p := 0) (l := m) hb (by rw [ho]; simp only; omega) (by rw [ho]; simp only [Int.toNat_natCast]; rw [hd]; exact h1)
      rw [ho] at hwd
      exact hwd
    · unfold AlikeW at h2 ⊢
      rw [List.map_cons, List.map_cons, h2]
theorem Wd.join {L : List UInt8} {p : Nat} {l : List S35} {e : Option Nat} (h : Wd L p l e) : e = none → ∀ (B : List UInt8) (m : List S35) (f : Option Nat), Wd B (p + L.length + 1) m f → (f ≠ none → m = []) → Wd (L ++ 32 :: B) p (match f with | none => l ++ m | some _ => []) f := by
  induction h with
  | nil p =>
    intro _ B m f hB hf
    cases f with
    | none => exact .blank (by decide) hB
    | some q => have := hf (by simp); subst this; exact .blank (by decide) hB
  | @blank b L p l e hb h ih =>
    intro he B m f hB hf
    refine .blank hb (ih he B m f ?_ hf)
    rw [List.length_cons] at hB
    have e1 : p + 1 + L.length + 1 = p + (L.length + 1) + 1 := by omega
    rw [e1]; exact hB
  | bad hb hz => intro he; cases he
  | @word b L p l hb hz h ih =>
    intro _ B m f hB hf
    have hl := o_len (b :: L)
    have ho := o_stop (R := 32 :: B) (.inr ⟨B, rfl⟩) b L hz
    have hd : ((b :: L) ++ 32 :: B).drop (o (b :: L)).2.2.toNat = (b :: L).drop (o (b :: L)).2.2.toNat ++ 32 :: B := List.drop_append_of_le_length (by omega)
    have hr := ih rfl B m f (by
      have e1 : p + (o (b :: L)).2.2.toNat + ((b :: L).drop (o (b :: L)).2.2.toNat).length + 1 = p + (b :: L).length + 1 := by rw [List.length_drop]; omega
      rw [e1]; exact hB) hf
    rw [← hd] at hr
    rw [List.cons_append] at ho hr ⊢
    rw [← ho] at hr hz
    cases f with
    | none =>
      have := Wd.word hb hz hr
      rw [ho] at this
      exact this
    | some q => exact Wd.after hb hz hr
  | after hb hz h ih => intro he; cases he
end Go.Proofs.YtngeelpfbajppaaDoor.Ly
end
section
namespace Go.Proofs.YtngeelpfbajppaaDoor.LLexAgain
open Go Go.RowKit Go.Proofs.YtngeelpfbajppaaDoorW.PrintWords Go.Proofs.YtngeelpfbajppaaDoor.PD Go.Proofs.YtngeelpfbajppaaDoor.Op Go.Proofs.YtngeelpfbajppaaDoor.Rk Go.Proofs.YtngeelpfbajppaaDoor.Ly
set_option linter.unusedVariables false
set_option linter.unusedSimpArgs false
theorem alive_ev : Evr (fun k => instarlaw08_alive.f k) true := Evr.mono instarlaw08_alive.at_ instarlaw08_alive.mono
theorem alike_get {l m : List S35} (h : AlikeW l m) : l.length = m.length ∧ ∀ (i : Nat) (h1 : i < l.length) (h2 : i < m.length), l[i].f0 = m[i].f0 ∧ l[i].f1 = m[i].f1 := by
  have hl : l.length = m.length := by
    have := congrArg List.length h
    rwa [List.length_map, List.length_map] at this
  refine ⟨hl, fun i h1 h2 => ?_⟩
  have := congrArg (fun x => x[i]?) h
  simp only [List.getElem?_map, List.getElem?_eq_getElem h1, List.getElem?_eq_getElem h2, Option.map_some, Option.some.injEq, Prod.mk.injEq] at this
  exact this
theorem loop (s : ByteArray) (l m : List S35) (hlen : l.length ≤ 600) (ha : AlikeW l m) (hp : ∀ y ∈ l, (0 : Int) ≤ y.f2 ∧ y.f2 < (s.size : Int)) (hr : l.Pairwise (fun x y => x.f2 < y.f2)) :
    ∀ n i, n + i = l.length → Evr (fun k => instarlaw08_LexAgain.l0 k s l m (i : Int)) true
  | 0, i, hn => by
    refine Evr.succ ?_
    simp only [instarlaw08_LexAgain.l0]
    exact Evr.neg (by omega) (Evr.bind alive_ev (Evr.const rfl))
  | n + 1, i, hn => by
    have c : i < l.length := by omega
    obtain ⟨hl, hg⟩ := alike_get ha
    have c2 : i < m.length := by omega
    obtain ⟨g1, g2⟩ := hg i c c2
    have ih := loop s l m hlen ha hp hr n (i + 1) (by omega)
    obtain ⟨p1, p2⟩ := hp l[i] (List.getElem_mem _)
    have r1 := rd35 c
    have r2 := rd35 c2
    refine Evr.succ ?_
    simp only [instarlaw08_LexAgain.l0]
    rw [r1, r2, wrap_nat (by omega)]
    refine Evr.pos (by omega) (Evr.pos (by omega) (Evr.pos (by omega) (Evr.pos g1 (Evr.pos (by rw [g2]) (Evr.neg (by omega) (Evr.neg (by omega) ?_))))))
    by_cases z : i = 0
    · exact Evr.neg (by omega) ih
    · have cj : i - 1 < l.length := by omega
      have ew : wrap64 ((i : Int) - 1) = ((i - 1 : Nat) : Int) := by rw [wrap_eq (by omega) (by omega)]; omega
      rw [ew, rd35 cj]
      have hlt := List.pairwise_iff_getElem.1 hr (i - 1) i cj c (by omega)
      exact Evr.pos (by omega) (Evr.pos (by omega) (Evr.pos (by omega) (Evr.neg (by omega) ih)))
theorem sz_le (n : Nat) : ∀ l : List S35, (∀ y ∈ l, y.f1.size ≤ n) → sz l ≤ n * l.length
  | [], _ => by simp [sz]
  | y :: l, h => by
    have h1 := sz_le n l (fun z hz => h z (List.mem_cons_of_mem _ hz))
    have h2 := h y (List.mem_cons_self)
    rw [sz_cons, List.length_cons, Nat.mul_add]
    omega
theorem pure : QLexAgain.Pure := by
  intro s hs
  refine Evr.ex ?_
  obtain ⟨l, e, hw, he⟩ := Wd.ex s.data.toList.length s.data.toList 0 (Nat.le_refl _)
  have h1 := words_wd s (by omega) hw
  obtain ⟨p1, p2, p3, p4, p5⟩ := hw.places
  rw [dl] at p3 p5
  unfold instarlaw08_LexAgain.f
  refine Evr.bind h1 ?_
  by_cases c : (s.size : Int) > 600
  · exact Evr.pos c (Evr.bind alive_ev (Evr.const rfl))
  refine Evr.neg c ?_
  cases e with
  | some q =>
    have hq := p5 q rfl
    simp only [res]
    refine Evr.neg (by decide) (Evr.bind alive_ev (Evr.pos rfl (Evr.pos (by decide) (Evr.pos (by omega) (Evr.pos (by omega) (Evr.const rfl))))))
  | none =>
    simp only [res, List.nil_append]
    have hz := sz_le 200 l (fun y hy => (p4 y hy).2)
    obtain ⟨X, x1, x2⟩ := text_ev l (by omega) (by omega)
    obtain ⟨m, m1, m2⟩ := again l (fun y hy => (p4 y hy).1)
    have hX : X.size ≤ 2200000 := by
      have := joinT_len l
      rw [← dl, x2]
      omega
    rw [← x2] at m1
    have h2 := words_wd X hX m1
    obtain ⟨hl, hg⟩ := alike_get m2
    refine Evr.pos (by decide) (Evr.bind x1 (Evr.bind h2 ?_))
    simp only [res, List.nil_append]
    refine Evr.pos (by decide) (Evr.succ ?_)
    simp only [instarlaw08_LexAgain.j0]
    rw [hl]
    refine Evr.neg (by simp) ?_
    exact loop s l m (by omega) m2 (fun y hy => by have := p1 y hy; rw [dl] at this; omega) p2 l.length 0 rfl
end Go.Proofs.YtngeelpfbajppaaDoor.LLexAgain
end
section
namespace Go.Proofs.YtngeelpfbajppaaDoor.Gs
open Go Go.RowKit
set_option linter.unusedVariables false
theorem tab_reads {P : Program} {W : World} {name : String} {k : IntKind} {zs : List Int} {g : Nat} {t e : TypeId} {n : Nat}
    (hg : P.globalNamed name = some g) (hty : (P.globals[g]?).map (·.type) = some t) (ht : P.underlying t = some (.array n e)) (he : P.underlying e = some (.int k)) (hce : P.cellsOf e = 1) (hct : P.cellsOf t = n)
    (h : Lib.VarReads P W name (Lib.tabData k zs)) : Lib.TabIs P W name k zs := by
  obtain ⟨g', t', cs, fuel, p, hg', ht', hvar, hd⟩ := h
  obtain rfl := Option.some.inj (hg.symm.trans hg')
  obtain rfl := Option.some.inj (hty.symm.trans ht')
  unfold Lib.TabIs
  rw [hvar, ← Lib.cells_of_tab ht he hce hct hd]
theorem pow10_eq : (Rows.laid_internal_strconv_uint64pow10 : DataW Unit) = Lib.tabData .u64 Lib.pow10Tab := by kernel_rfl
theorem start {laid : List (String × DataW Unit)} (W : World) (hsh : W.ShapedOpen Tryd.prog) (hL : laidMet Tryd.prog laid W)
    (h1 : ("internal/strconv.uint64pow10", (Rows.laid_internal_strconv_uint64pow10 : DataW Unit)) ∈ laid)
    : Bs.Gl W :=
  { triv := trivial
    maxLen := Go.Proofs.cell_of_shapedOpen_int (zero := #[.int .i64 0]) (t := 3) hsh (of_decide_eq_true (by kernel_rfl)) (by kernel_rfl) rfl (by kernel_rfl) (by kernel_rfl) Tryd.underlying3
    pow10 := tab_reads (g := 3) (t := 117) (e := 103) (n := 20) (by kernel_rfl) (by kernel_rfl) Tryd.underlying117 Tryd.underlying103 (by kernel_rfl) (by kernel_rfl) (pow10_eq ▸ Lib.laidMet.reads hL h1)
  }
end Go.Proofs.YtngeelpfbajppaaDoor.Gs
end
section
namespace Go.Proofs.YtngeelpfbajppaaDoor.RowLexAgain
open Go Go.ChangeShapes Go.WideShapes Go.ChangeAt Go.RowKit Go.Proofs.YtngeelpfbajppaaDoor.Op Go.Proofs.YtngeelpfbajppaaDoor.QLexAgain Go.Proofs.YtngeelpfbajppaaDoor.PD
open Go.ChangeMaps (open_string shut_string)
set_option linter.unusedVariables false
set_option linter.unusedSimpArgs false
theorem own : ownKnob Tryd.prog.godebug = none := by kernel_rfl
theorem laidOut : laidOutB Tryd.prog = true := by kernel_rfl
def laid : List (String × DataW Unit) := [("math/bits.deBruijn32tab", Rows.laid_math_bits_deBruijn32tab), ("math/bits.deBruijn64tab", Rows.laid_math_bits_deBruijn64tab), ("internal/strconv.uint64pow10", Rows.laid_internal_strconv_uint64pow10), ("unicode/utf8.acceptRanges", Rows.laid_unicode_utf8_acceptRanges), ("unicode/utf8.first", Rows.laid_unicode_utf8_first)]
set_option maxRecDepth 100000 in
theorem lifted (os : Os) (started : os.Started) (H : Type) (enc : TypeId × Value → H) (F : Stop.Interp) :
    ReturnsInHanded {} Tryd.checked os 5 .any ((Rows.OpenSpec.upto Rows.lexAgainSpec).preRow enc Tryd.prog Tryd.f5 [] false laid) (((Rows.OpenSpec.upto Rows.lexAgainSpec).at F).post enc Tryd.prog Tryd.f5 false true false false) := by
  refine returnsInHanded_of_row (C := Tryd.checked) (s := (Rows.OpenSpec.upto Rows.lexAgainSpec)) own started (by kernel_rfl) Tryd.func5
    ⟨World.laidAll Tryd.prog os laid, fun _ _ => 0, ⟨#[], #[.string ⟨#[]⟩], []⟩, World.laidAll_os _ _ _, World.shaped_of_ZipB (by kernel_rfl) (by kernel_rfl), rfl, (Input.okWide_of_okWideB (base := 0) (by kernel_rfl)).2,
      OpenSpec.preRow_of_cond 8 (x := ([.lit (.string [])], [], [])) (by kernel_rfl) (by kernel_rfl) (fun k hk => by cases hk; kernel_rfl) (by kernel_rfl)
        (by rw [MakeChecks.laidMetH_plain _ _ _ (by kernel_rfl)]; exact laidMet_laidAll _ (by kernel_rfl) (by kernel_rfl)), by
      simp only [Assume.holds]
      exact ⟨by simp, by simp, fun _ => Modest.zero, by simp, by simp⟩⟩ ?_
  intro W base args ds gs before hval0 hW _ hcond hsz0 hL hsh _
  have hbk : Rows.uptoBulkAll (ds ++ gs) ≤ 1048576 := of_decide_eq_true (hcond _ rfl)
  have hsz : (DataW.weightsEach Tryd.prog (Tryd.f5.params.toList ++ Rows.lexAgainSpec.plain.varTypes Tryd.prog) (ds ++ gs)).all (· ≤ reachBytes) = true := hsz0
  have hval : ∀ (j : Nat) t v, Tryd.f5.params[j]? = some t → args[j]? = some v → Value.okWide Tryd.prog W .any base t v := hval0
  have hW' := hW
  obtain ⟨p, q, hA0, hV, rfl, hfz, hnd⟩ := hW
  have hA : DataW.TrodAll enc Tryd.prog W 0 (fun _ => true) true Tryd.f5.params.toList args.toList ds p := hA0
  rw [Tryd.params5] at hA hval hsz
  obtain ⟨v0, vs0, d0, ds0, p0, q0, hargs, rfl, rfl, h0, r0⟩ := trodAll_cons hA
  obtain ⟨rfl, rfl, rfl⟩ := trodAll_nil r0
  obtain rfl : args = #[v0] := by cases args; simp_all
  obtain ⟨rfl, rfl⟩ := trodVars_none hV
  rw [MakeChecks.laidMetH_plain _ _ _ (by kernel_rfl)] at hL
  have hG : Go.Proofs.YtngeelpfbajppaaDoor.Bs.Gl W := Go.Proofs.YtngeelpfbajppaaDoor.Gs.start W hsh hL (by simp [laid])
  have k0 := h0
  have lt0 : ∀ x ∈ p0, x.block < W.heap.size := by obtain ⟨m, hm⟩ := k0; exact DataW.trod_lt m _ _ _ hm
  have w0 := hw_of hsz (j := 0) (t := 9) rfl rfl
  obtain ⟨y0, rfl, rfl, rfl, _⟩ := open_string Tryd.underlying9 (hval 0 9 v0 rfl rfl) h0
  have B0 : reach y0 := by have z := w0 y0.data.toList.length (by simp [DataW.weights]); rw [Array.length_toList] at z; exact z
  simp only [List.cons_append, List.nil_append, List.append_nil, Rows.uptoBulkAll, Rows.uptoBulk] at hbk
  have U0 : y0.size ≤ 1048576 := by have z : y0.data.toList.length = y0.size := Array.length_toList; omega
  obtain ⟨k, hp⟩ := Go.Proofs.YtngeelpfbajppaaDoor.LLexAgain.pure y0 U0
  refine (instarlaw08_LexAgain.calls k y0 true W  hG ⟨rfl⟩ hp).mono fun e W' ⟨he, bel⟩ => ?_
  subst he
  exact ⟨_, rfl, _, _, _, [], _, [], hW', trodAll_mk1 (shut_bool Tryd.underlying4 _), (trodAll_cons_mk (Below.trod laidOut (by kernel_rfl) (of_decide_eq_true (by kernel_rfl)) k0 bel lt0) trodAll_mk0), rfl, bel.frame _, fun h => by cases h⟩
theorem over : Rows.lexAgainUptoRow.holds Tryd.pinned (Rows.OpenSpec.upto Rows.lexAgainSpec) :=
  OpenClaim.holds_of_cond 5 Tryd.f5 rfl rfl rfl rfl rfl rfl rfl ⟨rfl, rfl, rfl, rfl, rfl⟩ rfl rfl rfl rfl rfl (by kernel_rfl) Tryd.func5 (by kernel_rfl)
    (of_decide_eq_true (by kernel_rfl)) (by unfold Func.isWrapper; first | (rw [if_pos (by decide +kernel)]; kernel_rfl) | (rw [if_neg (by decide +kernel)]; exact ⟨rfl, rfl⟩))
    (fun os started H enc _ F => by rw [OpenClaim.pre_eq_preRow]; exact lifted os started H enc F)
theorem card : Rows.LexAgainUptoCardSaid :=
  Claim7.holds_tied_plain_at .later [] [.data, .data, .data, .data, .pinned] true (true, "55c92eca6da9699fccc8f007f3c40d41333532b4ef65a41c0ec2b0b961e7ecaa") false over (fun _ h => by cases h) (by kernel_rfl) (fun _ h => by cases h) lexAgainUpto_row_tie rfl ⟨rfl, rfl⟩ (by kernel_rfl) rfl
    (fun f fn hf hfn => by
      obtain rfl : f = 5 := Option.some.inj ((show Tryd.prog.funcNamed "instar/instarlaw08.LexAgain" = some 5 by kernel_rfl).symm.trans hf) |>.symm
      obtain rfl : fn = Tryd.f5 := (Option.some.inj (Tryd.func5.symm.trans hfn)).symm
      exact ⟨by kernel_rfl, fun j t ht => by
        rw [Tryd.params5] at ht
        have hm : t ∈ [9] := by simpa using Array.mem_of_getElem? ht
        have hall : ([9].all fun u => !Tryd.prog.wantsStandIn u) = true := by kernel_rfl
        exact (show Tryd.prog.wantsStandIn t = false by simpa using List.all_eq_true.1 hall t hm)⟩)
    (by kernel_rfl)
end Go.Proofs.YtngeelpfbajppaaDoor.RowLexAgain
namespace Go.Proofs.YtngeelpfbajppaaDoor
theorem lexAgain_holds : Rows.LexAgainUptoCardSaid := RowLexAgain.card
#print axioms lexAgain_holds
end Go.Proofs.YtngeelpfbajppaaDoor
end
