/- Small laws beside the walk's own: comparisons of strings turned about; an empty string's test. -/
import Derived.WalkKit
import Derived.WalkLawsBesides
import Derived.Below
import Derived.Lib.AppendIntMem
import Derived.Test.YtinjibbjlcfkaaaDoorProg
import Derived.Test.YtinjibbjlcfkaaaDoorWWords
import Derived.Test.YtinjibbjlcfkaaaDoorWLast
namespace Go.Proofs.YtinjibbjlcfkaaaDoor.Bs
open Go Go.RowKit

theorem u8_tri (a b : UInt8) : a < b ∨ a = b ∨ b < a := by
  rcases Nat.lt_trichotomy a.toNat b.toNat with h | h | h
  · exact .inl (UInt8.lt_iff_toNat_lt.mpr h)
  · exact .inr (.inl (UInt8.toNat_inj.mp h))
  · exact .inr (.inr (UInt8.lt_iff_toNat_lt.mpr h))
theorem u8_irrefl (a : UInt8) : ¬ a < a := fun h => Nat.lt_irrefl _ (UInt8.lt_iff_toNat_lt.mp h)
theorem u8_asymm {a b : UInt8} (h : a < b) : ¬ b < a := fun h' => Nat.lt_asymm (UInt8.lt_iff_toNat_lt.mp h) (UInt8.lt_iff_toNat_lt.mp h')
theorem bytesLess_irrefl : ∀ a : List UInt8, Op.bytesLess a a = false
  | [] => rfl
  | x :: a => by simp [Op.bytesLess, u8_irrefl x, bytesLess_irrefl a]
theorem bytesLess_or : ∀ a b : List UInt8, (Op.bytesLess a b || a == b) = !(Op.bytesLess b a)
  | [], [] => rfl
  | [], _ :: _ => by simp [Op.bytesLess]
  | _ :: _, [] => by simp [Op.bytesLess]
  | x :: a, y :: b => by
    have ih := bytesLess_or a b
    rcases u8_tri x y with h | h | h
    · have h1 := u8_asymm h
      have h2 : ¬ y = x := fun e => u8_irrefl x (e ▸ h)
      simp [Op.bytesLess, h, h1, h2]
    · subst h
      simp only [Op.bytesLess, u8_irrefl x, decide_false, Bool.false_or, BEq.rfl, Bool.true_and]
      rw [← ih]
      simp
    · have h1 := u8_asymm h
      have h2 : ¬ x = y := fun e => u8_irrefl x (e ▸ h)
      simp [Op.bytesLess, h, h1, h2]
theorem gtr_bl (t : TypeId) (a b : ByteArray) : binOp .gtr t (.string a) (.string b) = pure (.bool (Op.bytesLess b.toList a.toList)) := by
  rw [binOp_string_gtr, bytesLess_or]; simp
theorem leq_bl (t : TypeId) (a b : ByteArray) : binOp .leq t (.string a) (.string b) = pure (.bool (!Op.bytesLess b.toList a.toList)) := by
  rw [binOp_string_leq, bytesLess_or]
theorem isEmpty_bne (l : List UInt8) : (l != []) = !l.isEmpty := by cases l <;> rfl
theorem isEmpty_beq (l : List UInt8) : (l == []) = l.isEmpty := by cases l <;> rfl

/-- A call of a function value that is known, in a plain region. -/
theorem goesF_ {P : Program} {ops : Array Oper} {Q : Exit → Act → World → Prop} {rest : List Oper} {oi : Oper} {a : Act} {w : World} (N : Option Tmp) (hd : oi.dst = N) (hg : oi.guard = none) {f : FuncId} {fn : Func} {x : Operand} {az : Array Operand} {ts : Array TypeId} (hf : P.funcs[f]? = some fn) (hname : (fn.name == "runtime.NumGoroutine") = false) (hb : fn.body.isSome = true) (args : Array Value)
    (hop : oi.op = .call { callee := .value x, args := az, argTypes := ts }) (hx : a.eval x = .func (.func f) #[] #[]) (hargs : az.map a.eval = args)
    (h : Calls P f args w fun e w' => ∃ v, e = .returned v ∧ wpList P ops Q rest (a.put N v) w') : wpList P ops Q (oi :: rest) a w := by
  refine wpList_plain hg fun K hK => ?_
  have he := Go.Proofs.YtinjibbjlcfkaaaDoorW.PrintLast.enters_ hf hname hb args w
  have hrun : (execOp a.eval oi).run P w = .ok (.enter f args) w := by
    unfold execOp
    simp [hop, resolve, Deferred.ofValue, invoke, hx, hargs, he]
  unfold Oper.wp
  rw [hrun, Oper.upon_enter]
  refine h.mono fun e w'' hh => ?_
  obtain ⟨v, rfl, hk⟩ := hh
  subst hd
  exact hK _ _ hk
/-- What the calls read of the package-level variables. -/
structure Gl (w : World) : Prop where
  mk0 ::
  triv : True
  maxLen : ∃ m, w.cell? ⟨1, 0, none⟩ = some (.int .i64 m)
  pow10 : Lib.TabIs Tryd.prog w "internal/strconv.uint64pow10" .u64 Lib.pow10Tab
theorem Gl.below {w w' : World} (h : Gl w) (hb : Below w.heap.size w w') : Gl w' :=
  { triv := trivial
    maxLen := by obtain ⟨m, hm⟩ := h.maxLen; exact ⟨m, (hb.cell (p := ⟨1, 0, none⟩) (World.block_lt_of_cell? _ _ hm)).trans hm⟩
    pow10 := Lib.tabBelow_of_tabIs h.pow10 w' hb
  }
theorem Gl.drewN {w : World} (h : Gl w) (n : Nat) : Gl (w.drewN n) := h.below (Go.Proofs.YtinjibbjlcfkaaaDoorW.PrintWords.pw_below_drewN (Below.refl _ _) n)

end Go.Proofs.YtinjibbjlcfkaaaDoor.Bs
