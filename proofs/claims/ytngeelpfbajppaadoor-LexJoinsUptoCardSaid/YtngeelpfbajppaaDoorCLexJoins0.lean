/- Lemmas for the law LexJoins: part 0. -/
import Derived.Below
import Derived.Deep.Draws
import Derived.Deep.AppendLies
import Derived.Maps.AppendAt
import Derived.OwnWalk
import Derived.Laws.BytesArg
import Derived.Laws.MakeOwn
import Derived.Laws.OwnMore
import Derived.Deep.OwnRows
import Derived.Tactics
import Derived.Lib.ConvBytes
import Derived.Laws.Slices
import Derived.WalkKit
import Derived.KernelRfl
import Derived.RowKit3
import Derived.Deep.LoopGhost
import Derived.Deep.QuietTactic
import Derived.BigQuiet
import Derived.WideLaws
import Derived.Deep.DeepCutAuto
import Derived.Deep.CutBlock
import Derived.Deep.RegionHeld3
import Derived.Laws.Rows
import Derived.Lib.AppendStr
import Derived.ArgAppend
import Derived.Laws.IdiomCopy
import Derived.RowKit
import Derived.OrdersHeld
import Derived.Laws.BitsLemmas
import Derived.WalkLawsBesides
import Derived.Lib.AppendIntMem
import Derived.Test.YtngeelpfbajppaaDoorProg
import Derived.Laws.StructEq
import Derived.Shelf.Strings.Builder1
import Derived.Shelf.Strings.Builder2
import Derived.Shelf.Strings.OnBuilder
import Derived.Shelf.Strings.Trim
import Derived.Shelf.Small.Utf8
import Derived.Shelf.Small.Strs
import Derived.Shelf.Small.Wraps
import Derived.Shelf.Strings.BuilderF
import Derived.Shelf.Strings.BuilderK
import Derived.Shelf.Utf8.RuneCount
import Derived.Shelf.Strings.Builder2Cap
import Derived.Shelf.Strconv.Itoa0
import Derived.Shelf.Strconv.Itoa1
import Derived.Shelf.LaysM
import Derived.Shelf.Strconv.Itoa2
import Derived.Shelf.Strconv.Itoa3
import Derived.Shelf.Strconv.Itoa4
import Derived.Shelf.Strings.Search1
import Derived.Shelf.Strings.Search2
import Derived.Shelf.Strings.Search3
import Derived.Shelf.Strings.Cut
import Derived.Shelf.Strings.Count
import Derived.Shelf.Strings.Shaped
import Derived.Shelf.GgClosure.StringsIndexFunc
import Derived.Ground.GgwProg
import Derived.Shelf.GgClosure.StringsIndexFuncTop
import Derived.Shelf.GgClosure.StringsRunes
import Derived.Shelf.Strings.Prefix
import Derived.Shelf.Strings.Split
import Derived.Shelf.Strings.Replace
import Derived.Shelf.Strings.SplitShaped
import Derived.Shelf.Unicode.Decode
import Derived.Shelf.Strings.Runes
import Derived.Shelf.Strings.RuneCount
import Derived.Shelf.Strings.AsciiSet
import Derived.Shelf.Unicode.DecodeSlow
import Derived.Shelf.Unicode.DecodeAny
import Derived.Shelf.Strings.FuncGrows
import Derived.Shelf.Strings.BuilderCap
import Derived.Shelf.Slices.Turned
import Derived.Shelf.Strings.SlTrimAscii
import Derived.Lib.TrimUEq
import Derived.Laws.Cover4
import Derived.WalkMore
import Derived.WalkSpells
import Derived.StillTactics
section
set_option linter.unusedVariables false
set_option linter.unusedSimpArgs false
namespace Go.Proofs.YtngeelpfbajppaaDoorW.PrintWords
open Go.RowKit
structure Aside0 (p : Prop) : Prop where mk :: (out : p)
structure Drawn0 (w w' : World) : Prop where mk :: (out : ∃ n, w' = w.drewN n)
theorem Drawn0.refl (w : World) : Drawn0 w w := ⟨⟨0, rfl⟩⟩
theorem Drawn0.step {w w' : World} (h : Drawn0 w w') (n : Nat) : Drawn0 w (w'.drewN n) := by
  obtain ⟨m, rfl⟩ := h
  exact ⟨⟨m + n, World.drewN_drewN ..⟩⟩
theorem Drawn0.grown {w w' : World} (h : Drawn0 w w') : Grown w w' := by
  obtain ⟨n, rfl⟩ := h
  induction n with
  | zero => exact Grown.refl _
  | succ n ih => rw [← World.drew_drewN]; exact Grown.drew ih
theorem Drawn0.below {w w' : World} (h : Drawn0 w w') : Below w.heap.size w w' := by
  obtain ⟨n, rfl⟩ := h
  induction n with
  | zero => exact Below.refl _ _
  | succ n ih => rw [← World.drew_drewN]; exact ih.drew
def bt (s : ByteArray) (i : Int) : Int := if h : i.toNat < s.size then ((s[i.toNat]'h).toNat : Int) else 0
theorem below_alloc {w W : World} (h : Below w.heap.size w W) (o : Obj) : Below w.heap.size w (W.alloc o) := h.alloc h.size o
theorem below_drew {B : Nat} {w W : World} (h : Below B w W) : Below B w W.drew := ⟨h.os, h.tape, h.output, h.size, h.block⟩
theorem pw_below_drewN {B : Nat} {w W : World} (h : Below B w W) (n : Nat) : Below B w (W.drewN n) := ⟨h.os, h.tape, h.output, h.size, h.block⟩
theorem below_then {B : Nat} {w w1 w2 : World} (h : Below B w w1) (hB : B ≤ w1.heap.size) (k : Below w1.heap.size w1 w2) : Below B w w2 :=
  h.trans ⟨k.os, k.tape, k.output, k.size, fun i hi => k.block i (Nat.lt_of_lt_of_le hi hB)⟩
theorem grown_of_below {w w1 : World} (h : Below w.heap.size w w1) (row : Option Nat) : w.grownBy w1 row := ⟨h.os, h.tape, h.output, h.size, fun i hi _ => h.block i hi⟩
theorem pw_cell_below {w w1 : World} (h : Below w.heap.size w w1) {a : Addr} {v : Value} (hc : w.cell? a = some v) : w1.cell? a = some v := (h.cell (World.block_lt_of_cell? w a hc)).trans hc
theorem own_nil (W : World) (base : Nat) (e : TypeId) (size : Nat) : W.ownsRow base e size (.slice none 0 0) 0 [] := ⟨by simp, .inl ⟨rfl, rfl⟩⟩
theorem own_base {w : World} {base : Nat} {e : TypeId} {size n : Nat} {v : Value} {xs : List Value} (h : w.ownsRow base e size v n xs) (k : Nat) (hk : v.ownBlock = some k) : base ≤ k := by
  rcases h.2 with ⟨rfl, _⟩ | ⟨g, cap, cur, rfl, hb, _⟩
  · simp [Value.ownBlock] at hk
  · have : g = k := by simpa [Value.ownBlock] using hk
    omega
theorem own_lt {w : World} {base : Nat} {e : TypeId} {size n : Nat} {v : Value} {xs : List Value} (h : w.ownsRow base e size v n xs) (k : Nat) (hk : v.ownBlock = some k) : k < w.heap.size := by
  rcases h.2 with ⟨rfl, _⟩ | ⟨g, cap, cur, rfl, hb, hh, _⟩
  · simp [Value.ownBlock] at hk
  · have : g = k := by simpa [Value.ownBlock] using hk
    subst this
    exact (Array.getElem?_eq_some_iff.1 hh).1
theorem pw_own_below {w w1 : World} {base : Nat} {e : TypeId} {size n : Nat} {v : Value} {xs : List Value} (h : w.ownsRow base e size v n xs) (hb : Below w.heap.size w w1) : w1.ownsRow base e size v n xs :=
  h.kept (grown_of_below hb none) (by cases v.ownBlock <;> simp)
section
variable {P : Program} {ops : Array Oper} {rest : List Oper} {o : Oper} {a : Act} {Q : Exit → Act → World → Prop}
end
section
variable {P : Program}
end
section
variable {P : Program} {ops : Array Oper} {rest : List Oper} {o : Oper} {a : Act} {Q : Exit → Act → World → Prop}
end
def LeO {α : Type} (a b : Option α) : Prop := ∀ r, a = some r → b = some r
theorem LeO.refl {α : Type} (a : Option α) : LeO a a := fun _ h => h
theorem LeO.none {α : Type} (b : Option α) : LeO Option.none b := fun _ h => by cases h
theorem LeO.trans {α : Type} {a b c : Option α} (h : LeO a b) (k : LeO b c) : LeO a c := fun r hr => k r (h r hr)
theorem LeO.ite {α : Type} {c : Prop} [Decidable c] {a a' b b' : Option α} (h : LeO a a') (k : LeO b b') : LeO (if c then a else b) (if c then a' else b') := by
  split
  · exact h
  · exact k
theorem LeO.bind {α β : Type} {a a' : Option α} {f f' : α → Option β} (h : LeO a a') (k : ∀ x, LeO (f x) (f' x)) : LeO (a.bind f) (a'.bind f') := by
  intro r hr
  obtain ⟨x, hx, hf⟩ := Option.bind_eq_some_iff.1 hr
  exact Option.bind_eq_some_iff.2 ⟨x, h x hx, k x r hf⟩
theorem LeO.map {α β : Type} {a a' : Option α} (f : α → β) (h : LeO a a') : LeO (a.map f) (a'.map f) := by
  intro r hr
  obtain ⟨x, hx, hf⟩ := Option.map_eq_some_iff.1 hr
  exact Option.map_eq_some_iff.2 ⟨x, h x hx, hf⟩
theorem more_rounds {α : Type} {g : Nat → Option α} (h : ∀ k, LeO (g k) (g (k + 1))) (k : Nat) : ∀ j, LeO (g k) (g (k + j))
  | 0 => LeO.refl _
  | j + 1 => (more_rounds h k j).trans (h (k + j))
theorem at_rounds {α : Type} {g : Nat → Option α} (h : ∀ k, LeO (g k) (g (k + 1))) {k k' : Nat} (hk : k ≤ k') {r : α} (hr : g k = some r) : g k' = some r := by
  have := more_rounds h k (k' - k) r hr
  rwa [Nat.add_sub_cancel' hk] at this
def Reps {α : Type} (R : α → List Value → Prop) (size : Nat) (ps : List α) (cs : List Value) : Prop :=
  cs.length = ps.length * size ∧ ∀ j p, ps[j]? = some p → R p ((cs.drop (j * size)).take size)
theorem Reps.none {α : Type} (R : α → List Value → Prop) (size : Nat) : Reps R size [] [] := ⟨by simp, fun j p h => by simp at h⟩
theorem Reps.snoc {α : Type} {R : α → List Value → Prop} {size : Nat} {ps : List α} {cs c : List Value} {p : α} (h : Reps R size ps cs) (hp : R p c) (hc : c.length = size) : Reps R size (ps ++ [p]) (cs ++ c) := by
  refine ⟨by rw [List.length_append, h.1, hc, List.length_append, List.length_singleton, Nat.add_mul, Nat.one_mul], fun j q hq => ?_⟩
  rcases Nat.lt_or_ge j ps.length with hj | hj
  · rw [List.getElem?_append_left hj] at hq
    have h1 : j * size + size ≤ cs.length := by rw [h.1, ← Nat.succ_mul]; exact Nat.mul_le_mul_right _ hj
    have h2 := h.2 j q hq
    rw [List.drop_append_of_le_length (by omega), List.take_append_of_le_length (by rw [List.length_drop]; omega)]
    exact h2
  · have hj' : j = ps.length := by
      have := (List.getElem?_eq_some_iff.1 hq).1
      rw [List.length_append, List.length_singleton] at this
      omega
    subst hj'
    have hq' : p = q := by simpa using hq
    subst hq'
    rw [← h.1, List.drop_left, ← hc, List.take_length]
    exact hp
theorem Reps.imp_ {α : Type} {R R' : α → List Value → Prop} {size : Nat} {ps : List α} {cs : List Value} (h : Reps R size ps cs) (hR : ∀ p c, R p c → R' p c) : Reps R' size ps cs := ⟨h.1, fun j p hj => hR _ _ (h.2 j p hj)⟩
def ReadsRow {α : Type} (R : α → List Value → Prop) (size : Nat) (w : World) (A : Option Addr) (n : Nat) (ps : List α) : Prop :=
  ps.length = n ∧ n ≤ 9223372036854775807 ∧ (0 < n → ∃ ad, A = some ad ∧ ∀ j p, ps[j]? = some p → ∃ c, c.length = size ∧ R p c ∧ ∀ i u, c[i]? = some u → w.cell? (ad.add (j * size + i)) = some u)
theorem ReadsRow.get_ {α : Type} {R : α → List Value → Prop} {size : Nat} {w : World} {A : Option Addr} {n : Nat} {ps : List α} (h : ReadsRow R size w A n ps) (d : α) (i : Int) (h0 : 0 ≤ i) (h1 : i < n) :
    ∃ ad c, A = some ad ∧ c.length = size ∧ R (ps.getD i.toNat d) c ∧ ∀ j u, c[j]? = some u → w.cell? (ad.add (i.toNat * size + j)) = some u := by
  obtain ⟨ad, e, hc⟩ := h.2.2 (by omega)
  have hl : i.toNat < ps.length := by have := h.1; omega
  obtain ⟨c, hs, hr, hcell⟩ := hc i.toNat _ (List.getElem?_eq_getElem hl)
  refine ⟨ad, c, e, hs, ?_, hcell⟩
  rw [List.getD_eq_getElem?_getD, List.getElem?_eq_getElem hl]
  exact hr
theorem ReadsRow.imp_ {α : Type} {R R' : α → List Value → Prop} {size : Nat} {w w1 : World} {A : Option Addr} {n : Nat} {ps : List α} (h : ReadsRow R size w A n ps) (hb : Below w.heap.size w w1) (hR : ∀ p c, R p c → R' p c) : ReadsRow R' size w1 A n ps :=
  ⟨h.1, h.2.1, fun hn => by
    obtain ⟨ad, e, hc⟩ := h.2.2 hn
    refine ⟨ad, e, fun j p hj => ?_⟩
    obtain ⟨c, hs, hr, hcell⟩ := hc j p hj
    exact ⟨c, hs, hR _ _ hr, fun i u hu => pw_cell_below hb (hcell i u hu)⟩⟩
theorem own_reads_row {α : Type} {R : α → List Value → Prop} {w : World} {base n size : Nat} {e : TypeId} {v : Value} {ps : List α} {cs : List Value} (h : w.ownsRow base e size v n cs) (hR : Reps R size ps cs) (hn : ps.length = n) :
    ∃ A c, v = .slice A n c ∧ ReadsRow R size w A n ps := by
  rcases Nat.eq_zero_or_pos n with h0 | h0
  · rcases h.2 with ⟨rfl, rfl⟩ | ⟨g, cap, cur, rfl, _⟩
    · exact ⟨none, 0, rfl, hn, by omega, fun hp => absurd hp (by omega)⟩
    · exact ⟨_, cap, rfl, hn, by omega, fun hp => absurd hp (by omega)⟩
  · obtain ⟨g, cap, rfl, _, _⟩ := h.form h0
    have hm : n ≤ 9223372036854775807 := by
      rcases h.2 with ⟨_, h1⟩ | ⟨g', cap', cur, he, _, _, h1, h2, _⟩
      · omega
      · simp only [maxLen] at h2
        omega
    refine ⟨_, cap, rfl, hn, hm, fun _ => ⟨_, rfl, fun j p hj => ⟨(cs.drop (j * size)).take size, ?_, hR.2 j p hj, fun i u hu => ?_⟩⟩⟩
    · have hjl := (List.getElem?_eq_some_iff.1 hj).1
      have h1 : j * size + size ≤ cs.length := by rw [hR.1, ← Nat.succ_mul]; exact Nat.mul_le_mul_right _ hjl
      rw [List.length_take, List.length_drop]
      omega
    · refine h.cells (g := g) rfl _ u ?_
      rw [List.getElem?_take] at hu
      split at hu
      · rw [List.getElem?_drop] at hu
        exact hu
      · cases hu
theorem add_field (ad : Addr) (m j : Nat) (hj : 0 < j) : ad.add (m + j) = ⟨(ad.add m).block, (ad.add m).off + j, none⟩ := by
  unfold Addr.add
  by_cases hm : m = 0
  · subst hm
    simp [Nat.ne_of_gt hj]
  · simp [hm, Nat.add_assoc]
section
variable {P : Program} {ops : Array Oper} {rest : List Oper} {o : Oper} {a : Act} {Q : Exit → Act → World → Prop}
theorem print_append_cells {w0 W : World} (base : Nat) (hgd : o.guard = none) (s x : Operand) (t e : TypeId) (z : Value) (size bytes : Nat)
    (ho : o.op = .call { callee := .builtin .append, args := #[s, x], argTypes := #[t, t] })
    (ht : P.underlying t = some (.slice e)) (hinfo : (P.info? e).map (fun i => (i.zero, i.size, i.bytes)) = some (some z, size, bytes)) (hz : z.cells.size = size) (hs0 : 0 < size) (hb0 : 0 < bytes)
    (v : Value) (n : Nat) (xs ys : List Value) (hs : a.eval s = v) (hx : a.eval x = .slice (some ⟨W.heap.size, 0, none⟩) 1 1) (hys : ys.length = size) (h1 : ∀ u ∈ ys, u.oneCell' = true)
    (HO : W.ownsRow base e size v n xs) (HB : Below base w0 W) (hbase : base ≤ W.heap.size) (hl : (n + 1) * bytes ≤ 140737488355328)
    (h : ∀ v1 w1, w1.ownsRow base e size v1 (n + 1) (xs ++ ys) → Below base w0 w1 → W.grownBy w1 v.ownBlock → (v1.ownBlock = v.ownBlock ∨ ∃ b, v1.ownBlock = some b ∧ W.heap.size ≤ b) → wpList P ops Q rest (a.put o.dst v1) w1) :
    wpList P ops Q (o :: rest) a (W.alloc (.cells ys.toArray e)) := by
  obtain ⟨i0, hi, hzz⟩ := Option.map_eq_some_iff.1 hinfo
  simp only [Prod.mk.injEq] at hzz
  obtain ⟨hz0, hz1, hz2⟩ := hzz
  have hlen : n + 1 ≤ 140737488355328 := Nat.le_trans (Nat.le_mul_of_pos_right _ hb0) hl
  refine wpList_append_own_at (W.alloc (.cells ys.toArray e)) hgd s x t ho base e i0 z size bytes ht hi hz0 hz1 hz2 hz hs0 v n xs hs (HO.alloc _) ⟨W.heap.size, 0, none⟩ 1 1 ys hx (by rw [hys]; simp)
    (by simpa using World.news_of_block (cs := ys.toArray) (t := e) (fr := (0, 0)) (heap_alloc_new W (.cells ys.toArray e))) h1 (by simp only [maxLen]; omega) hl (by simp; omega) ?_
  intro v1 w1 hown hg _ hat
  refine h v1 w1 hown ((HB.alloc hbase _).grown hg (by simp; omega) (own_base HO)) (World.grownBy.trans (World.grownBy_alloc W _ _) hg) ?_
  rcases hat with hat | hat
  · exact .inl hat
  · exact .inr ⟨_, hat, by simp⟩
end
theorem own_ne {w : World} {base : Nat} {e t : TypeId} {size n g : Nat} {v : Value} {xs : List Value} {cs : Array Value} (h : w.ownsRow base e size v n xs) (hg : w.heap[g]? = some (.cells cs t (0, 0))) (hne : e ≠ t) : some g ≠ v.ownBlock := by
  rcases h.2 with ⟨rfl, _⟩ | ⟨g', cap, cur, rfl, _, hh, _⟩
  · simp [Value.ownBlock]
  · intro he
    have : g = g' := by simpa [Value.ownBlock] using he
    subst this
    rw [hg] at hh
    injection hh with hh
    injection hh with _ ht
    exact hne ht.symm
theorem blk_set {w : World} {g : Nat} {t : TypeId} {cs : Array Value} (h : w.heap[g]? = some (.cells cs t (0, 0))) (i : Nat) (u : Value) : (w.setCell ⟨g, i, none⟩ u).heap[g]? = some (.cells (cs.setIfInBounds i u) t (0, 0)) := by
  simp [World.setCell, Array.getElem?_modify, h]
theorem blk_lt {w : World} {g : Nat} {o : Obj} (h : w.heap[g]? = some o) : g < w.heap.size := (Array.getElem?_eq_some_iff.1 h).1
theorem blk_cell {w : World} {g : Nat} {t : TypeId} {cs : Array Value} (h : w.heap[g]? = some (.cells cs t (0, 0))) (i : Nat) : w.cell? ⟨g, i, none⟩ = cs[i]? := cell_of_row w g i cs t (0, 0) h
theorem blk_frozen {w : World} {g : Nat} {t : TypeId} {cs : Array Value} (h : w.heap[g]? = some (.cells cs t (0, 0))) (i : Nat) : w.frozen? ⟨g, i, none⟩ = false := by simp [World.frozen?, h]
theorem blk_grown {w w1 : World} {g : Nat} {o : Obj} {row : Option Nat} (h : w.heap[g]? = some o) (hg : w.grownBy w1 row) (hne : some g ≠ row) : w1.heap[g]? = some o := (hg.block g (blk_lt h) hne).trans h
section
variable {P : Program} {ops : Array Oper} {o : Oper} {a : Act} {Q : Exit → Act → World → Prop} {K : Act → World → Prop}
end
theorem own_weaken {w : World} {base base' : Nat} {e : TypeId} {size n : Nat} {v : Value} {xs : List Value} (h : w.ownsRow base e size v n xs) (hb : base' ≤ base) : w.ownsRow base' e size v n xs := by
  obtain ⟨h1, h2⟩ := h
  refine ⟨h1, ?_⟩
  rcases h2 with h2 | ⟨g, cap, cur, rfl, hg, r⟩
  · exact .inl h2
  · exact .inr ⟨g, cap, cur, rfl, Nat.le_trans hb hg, r⟩
section
variable {α : Type} {enc : α → Value} {d : α}
def rdOf (d : α) (xs : List α) (i : Int) : α := xs.getD i.toNat d
def ReadsOf (enc : α → Value) (d : α) (w : World) (A : Option Addr) (n : Nat) (xs : List α) : Prop :=
  xs.length = n ∧ n ≤ 9223372036854775807 ∧ (0 < n → ∃ ad, A = some ad ∧ ∀ j, j < n → w.cell? (ad.add j) = some (enc (xs.getD j d)))
theorem ReadsOf.at_ {w : World} {A : Option Addr} {n : Nat} {xs : List α} (h : ReadsOf enc d w A n xs) (i : Int) (h0 : 0 ≤ i) (h1 : i < n) : ∃ ad, A = some ad ∧ w.cell? (ad.add i.toNat) = some (enc (rdOf d xs i)) := by
  obtain ⟨ad, e, hc⟩ := h.2.2 (by omega)
  exact ⟨ad, e, hc _ (by omega)⟩
theorem ReadsOf.below {w w1 : World} {A : Option Addr} {n : Nat} {xs : List α} (h : ReadsOf enc d w A n xs) (hb : Below w.heap.size w w1) : ReadsOf enc d w1 A n xs :=
  ⟨h.1, h.2.1, fun hn => by
    obtain ⟨ad, e, hc⟩ := h.2.2 hn
    exact ⟨ad, e, fun j hj => pw_cell_below hb (hc j hj)⟩⟩
end
section
variable {α : Type} {P : Program} {ops : Array Oper} {rest : List Oper} {o : Oper} {a : Act} {Q : Exit → Act → World → Prop}
end
theorem blk_alloc {w : World} {g : Nat} {o : Obj} (h : w.heap[g]? = some o) (o' : Obj) : (w.alloc o').heap[g]? = some o := (Below.heap_alloc w o' g (blk_lt h)).trans h
theorem blk_drew {w : World} {g : Nat} {o : Obj} (h : w.heap[g]? = some o) : w.drew.heap[g]? = some o := h
theorem blk_drewN {w : World} {g : Nat} {o : Obj} (h : w.heap[g]? = some o) (n : Nat) : (w.drewN n).heap[g]? = some o := h
theorem blk_below {w w1 : World} {g : Nat} {o : Obj} (h : w.heap[g]? = some o) (hb : Below w.heap.size w w1) : w1.heap[g]? = some o := (hb.block g (blk_lt h)).trans h
theorem blk_new (w : World) (o : Obj) : (w.alloc o).heap[w.heap.size]? = some o := heap_alloc_new w o
section
variable {P : Program}
theorem results_ct {fn : Func} {p u : Tmp} {ty : TypeId} (h : fn.results = #[.cell p ty, .tmp u]) (tmps : Array Value) (w : World) (g : Nat) (t : TypeId) (cs : Array Value) (fr : Nat × Nat) (d : TypeDesc)
    (hp : tmps.getD p undef = .pointer (some ⟨g, 0, none⟩)) (hg : w.heap[g]? = some (.cells cs t fr))
    (hu : P.underlying ty = some d) (hd : (match d with | .struct _ | .array _ _ => true | _ => false) = true) (hi : (P.info? ty).map (·.size) = some cs.size) :
    (results fn tmps).run P w = .ok (.tuple #[.agg cs, tmps.getD u undef]) w := by
  have hp' : tmps[p]?.getD undef = .pointer (some ⟨g, 0, none⟩) := by simpa using hp
  simp [results, h, hp', asAddr, run_loadVar_row w g t ty cs fr d hg hu hd hi]
end
theorem own_le {w : World} {base n m c size : Nat} {e : TypeId} {A : Option Addr} {xs : List Value} (h : w.ownsRow base e size (.slice A m c) n xs) : m ≤ c := by
  rcases h.2 with ⟨he, _⟩ | ⟨g, cap, cur, he, _, _, hnc, _⟩
  · injection he with _ h2 h3
    omega
  · injection he with _ h2 h3
    omega
def OwnRow {α : Type} (R : α → List Value → Prop) (e : TypeId) (size : Nat) (w : World) (base : Nat) (v : Value) (ps : List α) : Prop :=
  ∃ inner, w.ownsRow base e size v ps.length inner ∧ Reps R size ps inner
section
variable {α : Type} {R R' : α → List Value → Prop} {e : TypeId} {size : Nat} {w w1 : World} {base : Nat} {v : Value} {ps : List α}
theorem OwnRow.none_ (R : α → List Value → Prop) (e : TypeId) (size : Nat) (w : World) (base : Nat) : OwnRow R e size w base (.slice none 0 0) [] := ⟨[], own_nil _ _ _ _, Reps.none _ _⟩
theorem OwnRow.imp_ (h : OwnRow R e size w base v ps) (hR : ∀ p c, R p c → R' p c) : OwnRow R' e size w base v ps := by
  obtain ⟨inner, ho, hr⟩ := h
  exact ⟨inner, ho, hr.imp_ hR⟩
theorem OwnRow.below (h : OwnRow R e size w base v ps) (hb : Below w.heap.size w w1) : OwnRow R e size w1 base v ps := by
  obtain ⟨inner, ho, hr⟩ := h
  exact ⟨inner, pw_own_below ho hb, hr⟩
theorem OwnRow.reads (h : OwnRow R e size w base v ps) : ∃ A c, v = .slice A ps.length c ∧ ps.length ≤ c ∧ ReadsRow R size w A ps.length ps := by
  obtain ⟨inner, ho, hr⟩ := h
  obtain ⟨A, c, rfl, hrow⟩ := own_reads_row ho hr rfl
  exact ⟨A, c, rfl, own_le ho, hrow⟩
theorem OwnRow.ne_block (h : OwnRow R e size w base v ps) {g : Nat} {t : TypeId} {cells : Array Value} (hb : w.heap[g]? = some (.cells cells t (0, 0))) (ht : e ≠ t) : some g ≠ v.ownBlock := by
  obtain ⟨inner, ho, hr⟩ := h
  exact own_ne ho hb ht
theorem OwnRow.lit (W : World) (base : Nat) {inner : List Value} (hr : Reps R size ps inner) (hb : base ≤ W.heap.size) (hm : ps.length ≤ 9223372036854775807) :
    OwnRow R e size (W.alloc (.cells inner.toArray e)) base (.slice (some ⟨W.heap.size, 0, none⟩) ps.length ps.length) ps := by
  have h := World.ownsRow_lit (base := base) (e := e) (size := size) W inner.toArray ps.length hb (by simpa [maxLen] using hm) (by simpa using hr.1)
  exact ⟨inner, by simpa using h, hr⟩
end
section
variable {P : Program} {ops : Array Oper} {rest : List Oper} {o : Oper} {a : Act} {Q : Exit → Act → World → Prop} {α : Type} {R : α → List Value → Prop}
theorem OwnRow.append {w0 W : World} (base : Nat) (hgd : o.guard = none) (s x : Operand) (t e : TypeId) (z : Value) (size bytes : Nat)
    (ho : o.op = .call { callee := .builtin .append, args := #[s, x], argTypes := #[t, t] })
    (ht : P.underlying t = some (.slice e)) (hinfo : (P.info? e).map (fun i => (i.zero, i.size, i.bytes)) = some (some z, size, bytes)) (hz : z.cells.size = size) (hs0 : 0 < size) (hb0 : 0 < bytes)
    (v : Value) (ps : List α) (p : α) (cs : List Value) (hs : a.eval s = v) (hx : a.eval x = .slice (some ⟨W.heap.size, 0, none⟩) 1 1) (hp : R p cs) (hcs : cs.length = size) (h1 : ∀ u ∈ cs, u.oneCell' = true)
    (HO : OwnRow R e size W base v ps) (HB : Below base w0 W) (hbase : base ≤ W.heap.size) (hl : (ps.length + 1) * bytes ≤ 140737488355328)
    (h : ∀ v1 w1, OwnRow R e size w1 base v1 (ps ++ [p]) → Below base w0 w1 → W.grownBy w1 v.ownBlock → (v1.ownBlock = v.ownBlock ∨ ∃ b, v1.ownBlock = some b ∧ W.heap.size ≤ b) → wpList P ops Q rest (a.put o.dst v1) w1) :
    wpList P ops Q (o :: rest) a (W.alloc (.cells cs.toArray e)) := by
  obtain ⟨inner, hown, hr⟩ := HO
  refine print_append_cells base hgd s x t e z size bytes ho ht hinfo hz hs0 hb0 v ps.length inner cs hs hx hcs h1 hown HB hbase hl ?_
  intro v1 w1 hown1 hb1 hg1 hat1
  exact h v1 w1 ⟨inner ++ cs, by rw [List.length_append, List.length_singleton]; exact hown1, hr.snoc hp hcs⟩ hb1 hg1 hat1
end
section
variable {P : Program} {ops : Array Oper} {o : Oper} {a : Act} {Q : Exit → Act → World → Prop} {K : Act → World → Prop} {α : Type} {R : α → List Value → Prop}
end
section
variable {α : Type} {P : Program}
end
section
variable {P : Program} {ops : Array Oper} {rest : List Oper} {o : Oper} {a : Act} {Q : Exit → Act → World → Prop}
end
structure Kd (α : Type) where
  sz : Nat
  E : List Nat
  K : World → α → List Value → Prop
  M : World → Nat → (Nat → Prop) → α → List Value → Prop
  K_len : ∀ {w x cs}, K w x cs → cs.length = sz
  K_one : ∀ {w x cs}, K w x cs → ∀ u ∈ cs, u.oneCell' = true
  K_below : ∀ {w w1 : World} {x cs}, Below w.heap.size w w1 → K w x cs → K w1 x cs
  K_of_M : ∀ {w base ok x cs}, M w base ok x cs → K w x cs
  M_mono : ∀ {w base ok ok' x cs}, (∀ k, ok k → ok' k) → M w base ok x cs → M w base ok' x cs
  M_bound : ∀ {w : World} {base ok x cs}, M w base ok x cs → M w base (fun k => ok k ∧ base ≤ k ∧ k < w.heap.size ∧ ∃ q, q ∈ E ∧ ∃ cells, w.heap[k]? = some (.cells cells q (0, 0))) x cs
  M_move : ∀ {w w1 : World} {base ok x cs}, (∀ k, ok k → w1.heap[k]? = w.heap[k]?) → M w base ok x cs → M w1 base ok x cs
  M_lower : ∀ {w base base' ok x cs}, base' ≤ base → M w base ok x cs → M w base' ok x cs
theorem own_move {w w1 : World} {base : Nat} {e : TypeId} {size n : Nat} {v : Value} {xs : List Value} (h : w.ownsRow base e size v n xs) (hm : ∀ k, v.ownBlock = some k → w1.heap[k]? = w.heap[k]?) : w1.ownsRow base e size v n xs := by
  obtain ⟨h1, h2⟩ := h
  refine ⟨h1, ?_⟩
  rcases h2 with h2 | ⟨g, cap, cur, rfl, hg, hh, r⟩
  · exact .inl h2
  · exact .inr ⟨g, cap, cur, rfl, hg, (hm g (by simp [Value.ownBlock])).trans hh, r⟩
theorem own_typed {w : World} {base : Nat} {e : TypeId} {size n : Nat} {v : Value} {xs : List Value} (h : w.ownsRow base e size v n xs) (k : Nat) (hk : v.ownBlock = some k) : ∃ cells, w.heap[k]? = some (.cells cells e (0, 0)) := by
  rcases h.2 with ⟨rfl, _⟩ | ⟨g, cap, cur, rfl, hg, hh, r⟩
  · simp [Value.ownBlock] at hk
  · have : g = k := by simpa [Value.ownBlock] using hk
    subst this
    exact ⟨cur, hh⟩
namespace Kd
def C {α : Type} (d : Kd α) (w : World) (A : Option Addr) (n : Nat) (xs : List α) : Prop := ReadsRow (d.K w) d.sz w A n xs
def R {α : Type} (d : Kd α) (e : Nat) (w : World) (base : Nat) (ok : Nat → Prop) (v : Value) (xs : List α) : Prop :=
  (∀ k, v.ownBlock = some k → ok k) ∧ OwnRow (d.M w base (fun k => ok k ∧ some k ≠ v.ownBlock)) e d.sz w base v xs
section
variable {α : Type} {d : Kd α} {e : Nat} {w w1 : World} {base : Nat} {ok ok' : Nat → Prop} {v : Value} {xs : List α}
theorem C_below {A : Option Addr} {n : Nat} (h : d.C w A n xs) (hb : Below w.heap.size w w1) : d.C w1 A n xs := ReadsRow.imp_ h hb (fun _ _ hp => d.K_below hb hp)
theorem R_nil (d : Kd α) (e : Nat) (w : World) (base : Nat) (ok : Nat → Prop) : d.R e w base ok (.slice none 0 0) [] := ⟨fun k hk => by simp [Value.ownBlock] at hk, OwnRow.none_ _ _ _ _ _⟩
theorem R_mono (h : d.R e w base ok v xs) (hok : ∀ k, ok k → ok' k) : d.R e w base ok' v xs := ⟨fun k hk => hok k (h.1 k hk), h.2.imp_ (fun _ _ hp => d.M_mono (fun k hk => ⟨hok k hk.1, hk.2⟩) hp)⟩
theorem R_bound (h : d.R e w base ok v xs) : d.R e w base (fun k => ok k ∧ base ≤ k ∧ k < w.heap.size ∧ ∃ q, q ∈ e :: d.E ∧ ∃ cells, w.heap[k]? = some (.cells cells q (0, 0))) v xs := by
  obtain ⟨h0, inner, ho, hr⟩ := h
  refine ⟨fun k hk => ?_, inner, ho, hr.imp_ (fun _ _ hp => d.M_mono (fun k hk => ?_) (d.M_bound hp))⟩
  · obtain ⟨cells, hc⟩ := own_typed ho k hk
    exact ⟨h0 k hk, own_base ho k hk, own_lt ho k hk, e, List.mem_cons_self, cells, hc⟩
  · obtain ⟨⟨h1, h2⟩, h3, h4, q, hq, hc⟩ := hk
    exact ⟨⟨h1, h3, h4, q, List.mem_cons_of_mem _ hq, hc⟩, h2⟩
theorem R_move (h : d.R e w base ok v xs) (hm : ∀ k, ok k → w1.heap[k]? = w.heap[k]?) : d.R e w1 base ok v xs := by
  obtain ⟨h0, inner, ho, hr⟩ := h
  exact ⟨h0, inner, own_move ho (fun k hk => hm k (h0 k hk)), hr.imp_ (fun _ _ hp => d.M_move (fun k hk => hm k hk.1) hp)⟩
theorem R_lower {base' : Nat} (h : d.R e w base ok v xs) (hb : base' ≤ base) : d.R e w base' ok v xs := by
  obtain ⟨h0, inner, ho, hr⟩ := h
  exact ⟨h0, inner, own_weaken ho hb, hr.imp_ (fun _ _ hp => d.M_lower hb hp)⟩
theorem R_step (h : d.R e w base ok v xs) (hm : ∀ k, ok k → k < w.heap.size → w1.heap[k]? = w.heap[k]?) : d.R e w1 base ok v xs :=
  R_mono (R_move (R_bound h) (fun k hk => hm k hk.1 hk.2.2.1)) (fun _ hk => hk.1)
theorem M_step {x : α} {cs : List Value} (h : d.M w base ok x cs) (hm : ∀ k, ok k → k < w.heap.size → w1.heap[k]? = w.heap[k]?) : d.M w1 base ok x cs :=
  d.M_mono (fun _ hk => hk.1) (d.M_move (fun k hk => hm k hk.1 hk.2.2.1) (d.M_bound h))
theorem R_below (h : d.R e w base ok v xs) (hb : Below w.heap.size w w1) : d.R e w1 base ok v xs := R_step h (fun k _ hk => hb.block k hk)
theorem M_below {x : α} {cs : List Value} (h : d.M w base ok x cs) (hb : Below w.heap.size w w1) : d.M w1 base ok x cs := M_step h (fun k _ hk => hb.block k hk)
theorem R_far (h : d.R e w base ok v xs) {p : Addr} (hok : ∀ k, ok k → k ≠ p.block) (u : Value) : d.R e (w.setCell p u) base ok v xs := R_step h (fun k ho _ => Below.heap_setCell w p u k (hok k ho))
theorem R_types (h : d.R e w base ok v xs) {g t : Nat} {cells : Array Value} (hb : w.heap[g]? = some (.cells cells t (0, 0))) (ht : ∀ q, q ∈ e :: d.E → q ≠ t) : d.R e w base (fun k => ok k ∧ k ≠ g) v xs :=
  R_mono (R_bound h) (fun k hk => ⟨hk.1, by
    obtain ⟨_, _, _, q, hq, cells', hc⟩ := hk
    rintro rfl
    rw [hc] at hb
    injection hb with hb
    injection hb with _ hb
    exact ht q hq hb⟩)
theorem R_reads (h : d.R e w base ok v xs) : ∃ A c, v = .slice A xs.length c ∧ xs.length ≤ c ∧ d.C w A xs.length xs := by
  obtain ⟨A, c, he, hl, hr⟩ := OwnRow.reads h.2
  exact ⟨A, c, he, hl, hr.imp_ (Below.refl _ _) (fun _ _ hp => d.K_of_M hp)⟩
theorem R_slice (h : d.R e w base ok v xs) : ∃ A c, v = .slice A xs.length c := by
  obtain ⟨A, c, he, _⟩ := R_reads h
  exact ⟨A, c, he⟩
theorem R_own (h : d.R e w base ok v xs) : ∃ inner, w.ownsRow base e d.sz v xs.length inner := by
  obtain ⟨_, inner, ho, _⟩ := h
  exact ⟨inner, ho⟩
theorem R_ne (h : d.R e w base ok v xs) {g t : Nat} {cells : Array Value} (hb : w.heap[g]? = some (.cells cells t (0, 0))) (ht : e ≠ t) : some g ≠ v.ownBlock := OwnRow.ne_block h.2 hb ht
end
def scalar {α : Type} (enc : α → Value) (h1 : ∀ x, (enc x).oneCell' = true) : Kd α where
  sz := 1
  E := []
  K := fun _ x cs => cs = [enc x]
  M := fun _ _ _ x cs => cs = [enc x]
  K_len := fun h => by rw [h]; rfl
  K_one := fun h u hu => by
    rw [h] at hu
    rw [List.mem_singleton.1 hu]
    exact h1 _
  K_below := fun _ h => h
  K_of_M := fun h => h
  M_mono := fun _ h => h
  M_bound := fun h => h
  M_move := fun _ h => h
  M_lower := fun _ h => h
def int (k : IntKind) : Kd Int := scalar (Value.int k) (fun _ => rfl)
def bool : Kd Bool := scalar Value.bool (fun _ => rfl)
def string : Kd ByteArray := scalar Value.string (fun _ => rfl)
def slice {α : Type} (e : Nat) (d : Kd α) : Kd (List α) where
  sz := 1
  E := e :: d.E
  K := fun w xs cs => ∃ A c, cs = [.slice A xs.length c] ∧ xs.length ≤ c ∧ d.C w A xs.length xs
  M := fun w base ok xs cs => ∃ v, cs = [v] ∧ d.R e w base ok v xs
  K_len := by
    rintro w x cs ⟨A, c, rfl, _⟩
    rfl
  K_one := by
    rintro w x cs ⟨A, c, rfl, _⟩ u hu
    rw [List.mem_singleton.1 hu]
    rfl
  K_below := by
    rintro w w1 x cs hb ⟨A, c, rfl, hl, hr⟩
    exact ⟨A, c, rfl, hl, C_below hr hb⟩
  K_of_M := by
    rintro w base ok x cs ⟨v, rfl, h⟩
    obtain ⟨A, c, rfl, hl, hr⟩ := R_reads h
    exact ⟨A, c, rfl, hl, hr⟩
  M_mono := by
    rintro w base ok ok' x cs hok ⟨v, rfl, h⟩
    exact ⟨v, rfl, R_mono h hok⟩
  M_bound := by
    rintro w base ok x cs ⟨v, rfl, h⟩
    exact ⟨v, rfl, R_bound h⟩
  M_move := by
    rintro w w1 base ok x cs hm ⟨v, rfl, h⟩
    exact ⟨v, rfl, R_move h hm⟩
  M_lower := by
    rintro w base base' ok x cs hb ⟨v, rfl, h⟩
    exact ⟨v, rfl, R_lower h hb⟩
def pair {α β : Type} (a : Kd α) (b : Kd β) : Kd (α × β) where
  sz := a.sz + b.sz
  E := a.E ++ b.E
  K := fun w x cs => ∃ c0 c1, cs = c0 ++ c1 ∧ a.K w x.1 c0 ∧ b.K w x.2 c1
  M := fun w base ok x cs => ∃ c0 c1, cs = c0 ++ c1 ∧ a.M w base ok x.1 c0 ∧ b.M w base ok x.2 c1
  K_len := by
    rintro w x cs ⟨c0, c1, rfl, h0, h1⟩
    rw [List.length_append, a.K_len h0, b.K_len h1]
  K_one := by
    rintro w x cs ⟨c0, c1, rfl, h0, h1⟩ u hu
    rcases List.mem_append.1 hu with hu | hu
    · exact a.K_one h0 u hu
    · exact b.K_one h1 u hu
  K_below := by
    rintro w w1 x cs hb ⟨c0, c1, rfl, h0, h1⟩
    exact ⟨c0, c1, rfl, a.K_below hb h0, b.K_below hb h1⟩
  K_of_M := by
    rintro w base ok x cs ⟨c0, c1, rfl, h0, h1⟩
    exact ⟨c0, c1, rfl, a.K_of_M h0, b.K_of_M h1⟩
  M_mono := by
    rintro w base ok ok' x cs hok ⟨c0, c1, rfl, h0, h1⟩
    exact ⟨c0, c1, rfl, a.M_mono hok h0, b.M_mono hok h1⟩
  M_bound := by
    rintro w base ok x cs ⟨c0, c1, rfl, h0, h1⟩
    refine ⟨c0, c1, rfl, a.M_mono ?_ (a.M_bound h0), b.M_mono ?_ (b.M_bound h1)⟩
    · rintro k ⟨h2, h3, h4, q, hq, hc⟩
      exact ⟨h2, h3, h4, q, List.mem_append_left _ hq, hc⟩
    · rintro k ⟨h2, h3, h4, q, hq, hc⟩
      exact ⟨h2, h3, h4, q, List.mem_append_right _ hq, hc⟩
  M_move := by
    rintro w w1 base ok x cs hm ⟨c0, c1, rfl, h0, h1⟩
    exact ⟨c0, c1, rfl, a.M_move hm h0, b.M_move hm h1⟩
  M_lower := by
    rintro w base base' ok x cs hb ⟨c0, c1, rfl, h0, h1⟩
    exact ⟨c0, c1, rfl, a.M_lower hb h0, b.M_lower hb h1⟩
def iso {α β : Type} (d : Kd α) (f : β → α) : Kd β where
  sz := d.sz
  E := d.E
  K := fun w x cs => d.K w (f x) cs
  M := fun w base ok x cs => d.M w base ok (f x) cs
  K_len := d.K_len
  K_one := d.K_one
  K_below := d.K_below
  K_of_M := d.K_of_M
  M_mono := d.M_mono
  M_bound := d.M_bound
  M_move := d.M_move
  M_lower := d.M_lower
def bot {α : Type} (sz : Nat) (E : List Nat) : Kd α where
  sz := sz
  E := E
  K := fun _ _ _ => False
  M := fun _ _ _ _ _ => False
  K_len := fun h => h.elim
  K_one := fun h => h.elim
  K_below := fun _ h => h
  K_of_M := fun h => h
  M_mono := fun _ h => h
  M_bound := fun h => h
  M_move := fun _ h => h
  M_lower := fun _ h => h
def upto {α : Type} (F : Kd α → Kd α) (sz : Nat) (E : List Nat) : Nat → Kd α
  | 0 => bot sz E
  | n + 1 => F (upto F sz E n)
theorem C_get {α : Type} {d : Kd α} {w : World} {A : Option Addr} {n : Nat} {xs : List α} (h : d.C w A n xs) (z : α) (i : Int) (h0 : 0 ≤ i) (h1 : i < n) :
    ∃ ad c, A = some ad ∧ c.length = d.sz ∧ d.K w (xs.getD i.toNat z) c ∧ ∀ j u, c[j]? = some u → w.cell? (ad.add (i.toNat * d.sz + j)) = some u := ReadsRow.get_ h z i h0 h1
theorem R_appended {α : Type} {d : Kd α} {e base : Nat} {ok okp : Nat → Prop} {W w1 : World} {v v1 : Value} {xs : List α} {p : α} {inner cs : List Value} (h0 : ∀ k, v.ownBlock = some k → ok k) (hr : Reps (d.M W base (fun k => ok k ∧ some k ≠ v.ownBlock)) d.sz xs inner) (hp : d.M W base okp p cs) (hokp : ∀ k, okp k → ok k ∧ some k ≠ v.ownBlock) (hfresh : ∀ k, W.heap.size ≤ k → ok k)
    (hown : w1.ownsRow base e d.sz v1 (xs.length + 1) (inner ++ cs)) (hg : W.grownBy w1 v.ownBlock) (hat : v1.ownBlock = v.ownBlock ∨ ∃ b, v1.ownBlock = some b ∧ W.heap.size ≤ b) : d.R e w1 base ok v1 (xs ++ [p]) := by
  have hne : ∀ k, some k ≠ v.ownBlock → k < W.heap.size → some k ≠ v1.ownBlock := by
    intro k hk hlt
    rcases hat with hat | ⟨b, hb, hle⟩
    · rw [hat]; exact hk
    · rw [hb]
      intro he
      injection he with he
      omega
  have step : ∀ {q : α} {c : List Value} {o : Nat → Prop}, d.M W base o q c → (∀ k, o k → ok k ∧ some k ≠ v.ownBlock) → d.M w1 base (fun k => ok k ∧ some k ≠ v1.ownBlock) q c := by
    intro q c o hq ho
    have h1 := d.M_move (w1 := w1) (fun k hk => hg.block k hk.2.2.1 (ho k hk.1).2) (d.M_bound hq)
    exact d.M_mono (fun k hk => ⟨(ho k hk.1).1, hne k (ho k hk.1).2 hk.2.2.1⟩) h1
  refine ⟨fun k hk => ?_, inner ++ cs, by rw [List.length_append, List.length_singleton]; exact hown, ?_⟩
  · rcases hat with hat | ⟨b, hb, hle⟩
    · exact h0 k (hat ▸ hk)
    · rw [hb] at hk
      injection hk with hk
      exact hfresh k (by omega)
  · exact (hr.imp_ (fun _ _ hq => step hq (fun _ hk => hk))).snoc (step hp hokp) (d.K_len (d.K_of_M hp))
section
variable {P : Program} {ops : Array Oper} {rest : List Oper} {o : Oper} {a : Act} {Q : Exit → Act → World → Prop} {α : Type}
theorem R_append (d : Kd α) {w0 W : World} (base : Nat) (hgd : o.guard = none) (s x : Operand) (t e : TypeId) (z : Value) (bytes : Nat)
    (ho : o.op = .call { callee := .builtin .append, args := #[s, x], argTypes := #[t, t] })
    (ht : P.underlying t = some (.slice e)) (hinfo : (P.info? e).map (fun i => (i.zero, i.size, i.bytes)) = some (some z, d.sz, bytes)) (hz : z.cells.size = d.sz) (hs0 : 0 < d.sz) (hb0 : 0 < bytes)
    (v : Value) (xs : List α) (p : α) (cs : List Value) (ok okp : Nat → Prop) (hs : a.eval s = v) (hx : a.eval x = .slice (some ⟨W.heap.size, 0, none⟩) 1 1) (hp : d.M W base okp p cs) (hokp : ∀ k, okp k → ok k ∧ some k ≠ v.ownBlock) (hfresh : ∀ k, W.heap.size ≤ k → ok k)
    (HO : d.R e W base ok v xs) (HB : Below base w0 W) (hbase : base ≤ W.heap.size) (hl : (xs.length + 1) * bytes ≤ 140737488355328)
    (h : ∀ v1 w1, d.R e w1 base ok v1 (xs ++ [p]) → Below base w0 w1 → W.grownBy w1 v.ownBlock → (v1.ownBlock = v.ownBlock ∨ ∃ b, v1.ownBlock = some b ∧ W.heap.size ≤ b) → wpList P ops Q rest (a.put o.dst v1) w1) :
    wpList P ops Q (o :: rest) a (W.alloc (.cells cs.toArray e)) := by
  obtain ⟨h0, inner, hown, hr⟩ := HO
  refine print_append_cells base hgd s x t e z d.sz bytes ho ht hinfo hz hs0 hb0 v xs.length inner cs hs hx (d.K_len (d.K_of_M hp)) (d.K_one (d.K_of_M hp)) hown HB hbase hl ?_
  intro v1 w1 hown1 hb1 hg1 hat1
  exact h v1 w1 (R_appended h0 hr hp hokp hfresh hown1 hg1 hat1) hb1 hg1 hat1
end
section
variable {P : Program} {ops : Array Oper} {o : Oper} {a : Act} {Q : Exit → Act → World → Prop} {Kc : Act → World → Prop} {α : Type}
end
theorem reads_of_C {α : Type} {enc : α → Value} {d : α} {h1 : ∀ x, (enc x).oneCell' = true} {w : World} {A : Option Addr} {n : Nat} {xs : List α} (h : (scalar enc h1).C w A n xs) : ReadsOf enc d w A n xs := by
  refine ⟨h.1, h.2.1, fun hn => ?_⟩
  obtain ⟨ad, e, hc⟩ := h.2.2 hn
  refine ⟨ad, e, fun j hj => ?_⟩
  have hl : j < xs.length := by have := h.1; omega
  obtain ⟨c, _, hK, hcell⟩ := hc j _ (List.getElem?_eq_getElem hl)
  have hK' : c = [enc xs[j]] := hK
  subst hK'
  have := hcell 0 _ rfl
  simpa [scalar, List.getD_eq_getElem?_getD, List.getElem?_eq_getElem hl] using this
end Kd
namespace Kd
section
variable {α : Type} {F : Kd α → Kd α} {sz : Nat} {E : List Nat} {hs : ∀ n, (upto F sz E n).sz = sz} {hE : ∀ n q, q ∈ (upto F sz E n).E → q ∈ E}
end
end Kd
namespace Kd
end Kd
namespace Kd
section
variable {α β : Type} {d : Kd α} {d' : Kd β} {e e' : Nat} {w w1 W : World} {base b b' : Nat} {ok ok' okv oku : Nat → Prop} {v u : Value} {xs : List α} {ys : List β}
theorem R_alloc (h : d.R e w base ok v xs) (o : Obj) : d.R e (w.alloc o) base ok v xs := R_below h (below_alloc (Below.refl _ _) o)
theorem R_drew (h : d.R e w base ok v xs) : d.R e w.drew base ok v xs := R_below h (below_drew (Below.refl _ _))
theorem R_drewN (h : d.R e w base ok v xs) (m : Nat) : d.R e (w.drewN m) base ok v xs := R_below h (pw_below_drewN (Below.refl _ _) m)
theorem C_alloc {A : Option Addr} {n : Nat} (h : d.C w A n xs) (o : Obj) : d.C (w.alloc o) A n xs := C_below h (below_alloc (Below.refl _ _) o)
theorem C_drew {A : Option Addr} {n : Nat} (h : d.C w A n xs) : d.C w.drew A n xs := C_below h (below_drew (Below.refl _ _))
theorem C_drewN {A : Option Addr} {n : Nat} (h : d.C w A n xs) (m : Nat) : d.C (w.drewN m) A n xs := C_below h (pw_below_drewN (Below.refl _ _) m)
theorem C_nil (d : Kd α) (w : World) : d.C w none ([] : List α).length [] := ⟨rfl, by simp, fun h => absurd h (Nat.lt_irrefl 0)⟩
theorem R_reads' {A : Option Addr} {n c : Nat} (h : d.R e w base ok (.slice A n c) xs) : n = xs.length ∧ n ≤ c ∧ d.C w A xs.length xs := by
  obtain ⟨A', c', he, hl, hr⟩ := R_reads h
  injection he with h1 h2 h3
  subst h1
  exact ⟨h2, by omega, hr⟩
theorem R_lt (h : d.R e w base ok v xs) : ∀ k, v.ownBlock = some k → k < w.heap.size := by
  obtain ⟨inner, ho⟩ := R_own h
  exact own_lt ho
theorem R_base (h : d.R e w base ok v xs) : ∀ k, v.ownBlock = some k → base ≤ k := by
  obtain ⟨inner, ho⟩ := R_own h
  exact own_base ho
theorem R_away (h : d.R e w base ok v xs) {g : Nat} (hok : ∀ k, ok k → k ≠ g) : some g ≠ v.ownBlock := fun e => hok g (h.1 g e.symm) rfl
end
section
variable {w W : World} {A : Option Addr} {n : Nat}
theorem at_string {xs : List ByteArray} (h : Kd.string.C w A n xs) (i : Int) (h0 : 0 ≤ i) (h1 : i < n) : ∃ ad, A = some ad ∧ w.cell? (ad.add i.toNat) = some (.string (rdOf ByteArray.empty xs i)) :=
  ReadsOf.at_ (reads_of_C (enc := Value.string) (d := ByteArray.empty) (h1 := fun _ => rfl) h) i h0 h1
variable {α : Type} {enc : α → Value} {h1 : ∀ x, (enc x).oneCell' = true} {e base g cap : Nat} {ok : Nat → Prop} {xs : List α}
end
section
variable {P : Program} {ops : Array Oper} {rest : List Oper} {o : Oper} {a : Act} {Q : Exit → Act → World → Prop}
theorem event_run {W w1 : World} {v : Value} (hgd : o.guard = none) (hrun : (execOp a.eval o).run P W = .ok (.value v) w1) (h : wpList P ops Q rest (a.put o.dst v) w1) : wpList P ops Q (o :: rest) a W := by
  refine wpList_plain hgd fun K hK => ?_
  unfold Oper.wp
  rw [hrun]
  exact hK _ _ h
variable {α : Type}
theorem R_lit (d : Kd α) {w0 W : World} (base e : Nat) (hgd : o.guard = none) {N : Tmp} (_hd : o.dst = some N) {xs : List α} {inner : List Value} {ok okp : Nat → Prop}
    (hrun : (execOp a.eval o).run P W = .ok (.value (.slice (some ⟨W.heap.size, 0, none⟩) xs.length xs.length)) (W.alloc (.cells inner.toArray e)))
    (hrep : Reps (d.M W base okp) d.sz xs inner) (hok : ∀ k, okp k → ok k) (hfresh : ok W.heap.size) (HB : Below base w0 W) (hbase : base ≤ W.heap.size) (hm : xs.length ≤ 9223372036854775807)
    (h : ∀ v1 w1, d.R e w1 base ok v1 xs → Below base w0 w1 → W.grownBy w1 none → (∃ b, v1.ownBlock = some b ∧ W.heap.size ≤ b) → wpList P ops Q rest (a.put o.dst v1) w1) : wpList P ops Q (o :: rest) a W := by
  refine event_run hgd hrun (h _ _ ⟨fun k hk => ?_, inner, ?_, ?_⟩ (HB.alloc hbase _) (World.grownBy_alloc W _ none) ⟨W.heap.size, by simp [Value.ownBlock], Nat.le_refl _⟩)
  · have : W.heap.size = k := by simpa [Value.ownBlock] using hk
    subst this
    exact hfresh
  · have h2 := World.ownsRow_lit (base := base) (e := e) (size := d.sz) W inner.toArray xs.length hbase (by simpa [maxLen] using hm) (by simpa using hrep.1)
    simpa using h2
  · refine hrep.imp_ (fun p c hp => d.M_mono (fun k hk => ⟨hok k hk.1, fun he => ?_⟩) (M_below (d.M_bound hp) (below_alloc (Below.refl _ _) _)))
    have h3 : k = W.heap.size := by simpa [Value.ownBlock] using he
    have := hk.2.2.1
    omega
end
end Kd
section
variable {P : Program}
end
def QRow (w : World) (base : Nat) (e : TypeId) (size : Nat) (v : Value) (n : Nat) (xs : List Value) : Prop :=
  xs.length = n * size ∧
  ((n = 0 ∧ ∃ A, v = .slice A 0 0 ∧ ∀ a, A = some a → base ≤ a.block ∧ ∃ cur, w.heap[a.block]? = some (.cells cur e (0, 0))) ∨
   ∃ g off cap cur, v = .slice (some ⟨g, off * size, none⟩) n cap ∧ base ≤ g ∧ w.heap[g]? = some (.cells cur e (0, 0)) ∧ n ≤ cap ∧ off + cap ≤ maxLen ∧ cur.size = (off + cap) * size ∧ (cur.toList.drop (off * size)).take (n * size) = xs)
section
variable {w w1 : World} {base n size : Nat} {e : TypeId} {v : Value} {xs : List Value}
theorem q_of_own (h : w.ownsRow base e size v n xs) : QRow w base e size v n xs := by
  obtain ⟨h1, h2⟩ := h
  refine ⟨h1, ?_⟩
  rcases h2 with ⟨rfl, h0⟩ | ⟨g, cap, cur, rfl, hb, hh, hnc, hcm, hcs, ht⟩
  · exact .inl ⟨h0, none, rfl, fun a ha => by cases ha⟩
  · exact .inr ⟨g, 0, cap, cur, by rw [Nat.zero_mul], hb, hh, hnc, by rw [Nat.zero_add]; exact hcm, by rw [Nat.zero_add]; exact hcs, by rw [Nat.zero_mul, List.drop_zero]; exact ht⟩
end
section
variable {P : Program}
end
namespace Kd
def Q {α : Type} (d : Kd α) (e : Nat) (w : World) (base : Nat) (ok : Nat → Prop) (v : Value) (xs : List α) : Prop :=
  (∀ k, v.ownBlock = some k → ok k) ∧ ∃ inner, QRow w base e d.sz v xs.length inner ∧ Reps (d.M w base (fun k => ok k ∧ some k ≠ v.ownBlock)) d.sz xs inner
section
variable {α : Type} {d : Kd α} {e : Nat} {w w1 W : World} {base : Nat} {ok ok' : Nat → Prop} {v : Value} {xs : List α}
theorem Q_of_R (h : d.R e w base ok v xs) : d.Q e w base ok v xs := by
  obtain ⟨h0, inner, ho, hr⟩ := h
  exact ⟨h0, inner, q_of_own ho, hr⟩
theorem Q_nil (d : Kd α) (e : Nat) (w : World) (base : Nat) (ok : Nat → Prop) : d.Q e w base ok (.slice none 0 0) [] := Q_of_R (R_nil d e w base ok)
end
section
variable {P : Program} {ops : Array Oper} {rest : List Oper} {o : Oper} {a : Act} {Q' : Exit → Act → World → Prop} {Kc : Act → World → Prop} {α : Type}
end
end Kd
namespace Kd
section
variable {α : Type} {d : Kd α} {e e' : Nat} {w w1 W : World} {base : Nat} {ok : Nat → Prop} {u v : Value} {xs : List α}
theorem R_elder' (hu : d.R e W base ok u xs) (hbase : ∀ k, v.ownBlock = some k → W.heap.size ≤ k) (hb : Below W.heap.size W w1) : d.R e w1 base (fun k => ok k ∧ some k ≠ v.ownBlock) u xs :=
  R_mono (R_move (R_bound hu) (fun k hk => hb.block k hk.2.2.1)) (fun k hk => ⟨hk.1, fun he => by have := hbase k he.symm; have := hk.2.2.1; omega⟩)
theorem R_new' (h : d.R e w1 W.heap.size ok v xs) (hlt : ∀ k, u.ownBlock = some k → k < W.heap.size) : d.R e w1 W.heap.size (fun k => ok k ∧ some k ≠ u.ownBlock) v xs :=
  R_mono (R_bound h) (fun k hk => ⟨hk.1, fun he => by have := hlt k he.symm; have := hk.2.1; omega⟩)
end
end Kd
namespace Kd
section
variable {α : Type} {d : Kd α} {e base g n cap : Nat} {ok okp : Nat → Prop} {W : World} {xs : List α}
end
end Kd
namespace Kd
section
variable {α : Type} {F : Kd α → Kd α} {sz : Nat} {E : List Nat} {hs : ∀ n, (upto F sz E n).sz = sz} {hE : ∀ n q, q ∈ (upto F sz E n).E → q ∈ E}
end
end Kd
namespace Kd
section
variable {P : Program} {ops : Array Oper} {rest : List Oper} {o : Oper} {a : Act} {Q : Exit → Act → World → Prop} {α : Type}
end
end Kd
namespace Kd
section
variable {P : Program} {ops : Array Oper} {rest : List Oper} {o : Oper} {a : Act} {Q : Exit → Act → World → Prop} {α : Type}
end
end Kd
namespace Kd
section
variable {α : Type} {k : Kd α} {w : World} {A : Option Addr} {xs : List α} {m c : Nat}
end
end Kd
section
variable {P : Program}
end
theorem below_size {w W : World} (h : Below w.heap.size w W) : w.heap.size ≤ W.heap.size := h.size
theorem below_step {w W w2 : World} (h : Below w.heap.size w W) (k : Below W.heap.size W w2) : Below w.heap.size w w2 := below_then h h.size k
theorem below_set {w W : World} {g j : Nat} {v : Value} (h : Below w.heap.size w W) (hg : w.heap.size ≤ g) : Below w.heap.size w (W.setCell ⟨g, j, none⟩ v) := h.setCell hg _
theorem add_block (a : Addr) (i : Nat) : (a.add i).block = a.block := by unfold Addr.add; split <;> rfl
theorem ReadsOf.nil {α : Type} (enc : α → Value) (d : α) (W : World) : ReadsOf enc d W none ([] : List α).length [] := ⟨rfl, by simp, fun h => absurd h (Nat.lt_irrefl 0)⟩
theorem ReadsOf.drewN {α : Type} {enc : α → Value} {d : α} {W : World} {A : Option Addr} {n : Nat} {xs : List α} (h : ReadsOf enc d W A n xs) (m : Nat) : ReadsOf enc d (W.drewN m) A n xs := h
theorem cell_far {W : World} {p a : Addr} (h : a.block ≠ p.block) (u : Value) : (W.setCell p u).cell? a = W.cell? a := by
  have := Below.heap_setCell W p u a.block h
  simp [World.cell?, this]
theorem blk_put {w : World} {g : Nat} {t : TypeId} {cs cs' : Array Value} (h : w.heap[g]? = some (.cells cs t (0, 0))) (i : Nat) (u : Value) (e : cs.setIfInBounds i u = cs') : (w.setCell ⟨g, i, none⟩ u).heap[g]? = some (.cells cs' t (0, 0)) := e ▸ blk_set h i u
theorem own_blk {W : World} {base n c : Nat} {e : TypeId} {size g : Nat} {ad : Addr} {xs : List Value} (_ : W.ownsRow base e size (.slice (some ad) n c) n xs) (hne : some g ≠ (Value.slice (some ad) n c).ownBlock) : ad.block ≠ g := by
  rintro rfl
  exact hne (by simp [Value.ownBlock])
theorem below_drew1 {base : Nat} {w W : World} (h : Below base w W) : Below base w W.drew := h.drew
namespace Kd
section
variable {α β : Type} {d : Kd α} {d' : Kd β} {e e' base base' n : Nat} {ok ok' : Nat → Prop} {w W w1 W1 : World} {v u : Value} {xs : List α} {ys : List β} {A : Option Addr} {c : Nat}
theorem own_blk {ad : Addr} {g : Nat} (hne : some g ≠ (Value.slice (some ad) n c).ownBlock) : ad.block ≠ g := by
  rintro rfl
  exact hne (by simp [Value.ownBlock])
end
section
variable {α : Type} {enc : α → Value} {h1 : ∀ x, (enc x).oneCell' = true} {w W : World} {A : Option Addr} {n g : Nat} {xs : List α}
end
end Kd
namespace Kd
section
variable {α : Type} {d : Kd α} {e base g : Nat} {ok : Nat → Prop} {w w1 : World} {v : Value} {xs : List α} {o : Obj}
theorem R_elderB (h : d.R e w base ok v xs) (a : Nat) (ha : w.heap.size ≤ a) : d.R e w base (fun k => ok k ∧ k ≠ a) v xs := R_mono (R_bound h) (fun k hk => ⟨hk.1, by have := hk.2.2.1; omega⟩)
theorem freshB (hb : w.heap[g]? = some o) : ∀ k, w.heap.size ≤ k → k ≠ g := fun k hk => by have := blk_lt hb; omega
end
end Kd
section
variable {P : Program} {ops : Array Oper} {rest : List Oper} {o : Oper} {a : Act} {Q : Exit → Act → World → Prop}
theorem box_event {W : World} (hgd : o.guard = none) {N : Tmp} (_hd : o.dst = some N) {cs : Array Value} {t : TypeId}
    (hrun : (execOp a.eval o).run P W = .ok (.value (.pointer (some ⟨W.heap.size, 0, none⟩))) (W.alloc (.cells cs t (0, 0))))
    (h : ∀ g, g = W.heap.size → ∀ w1, w1.heap[g]? = some (.cells cs t (0, 0)) → Below W.heap.size W w1 → wpList P ops Q rest (a.put o.dst (.pointer (some ⟨g, 0, none⟩))) w1) : wpList P ops Q (o :: rest) a W :=
  Kd.event_run hgd hrun (h _ rfl _ (blk_new W _) (below_alloc (Below.refl _ _) _))
end
namespace Kd
section
variable {α : Type} {enc : α → Value} {h1 : ∀ x, (enc x).oneCell' = true} {e base g n cap : Nat} {ok : Nat → Prop} {W : World} {xs : List α}
end
end Kd
section
variable {P : Program} {ops : Array Oper} {rest : List Oper} {o : Oper} {a : Act} {Q : Exit → Act → World → Prop}
end
namespace Kd
section
variable {α : Type} {enc : α → Value} {h1 : ∀ x, (enc x).oneCell' = true} {e base g n cap : Nat} {ok : Nat → Prop} {W : World} {xs : List α}
end
end Kd
section
variable {P : Program} {ops : Array Oper} {rest : List Oper} {o : Oper} {a : Act} {Q : Exit → Act → World → Prop} {W : World}
theorem gate_dst {N : Tmp} (_hN : o.dst = some N) (h : wpList P ops Q (o :: rest) a W) : wpList P ops Q (o :: rest) a W := h
end
section
variable {P : Program} {ops : Array Oper} {o : Oper} {a : Act} {Q : Exit → Act → World → Prop} {Kc : Act → World → Prop}
namespace Kd
variable {α : Type}
end Kd
end
section
variable {P : Program} {tmps : Array Value} {w : World}
end
namespace Kd
section
variable {P : Program} {α : Type}
end
section
variable {P : Program} {ops : Array Oper} {rest : List Oper} {o : Oper} {a : Act} {Q : Exit → Act → World → Prop} {Kc : Act → World → Prop} {α : Type}
end
end Kd
end Go.Proofs.YtngeelpfbajppaaDoorW.PrintWords
end
section
namespace Go.Proofs.YtngeelpfbajppaaDoorW.PrintLast
section
variable {P : Program} {ops : Array Oper} {Q : Exit → Act → World → Prop} {md : Region.Mode} {S : World → Prop} {ds : List Nat}
def wpAnyLast (P : Program) (md : Region.Mode) (ops : Array Oper) (Q : Exit → Act → World → Prop) (S : World → Prop) (ds : List Nat) : Nat → Array Bool → Act → World → Prop
  | 0, listed, a, w => Region.ready md ops listed = [] ∧ Q .normal a w
  | fuel + 1, listed, a, w =>
    (Region.ready md ops listed = [] → Q .normal a w) ∧
    ∀ i ∈ Region.ready md ops listed, wpOp P ops Q i (fun a' w' => (i ∉ ds → S w → S w') ∧ wpAnyLast P md ops Q S ds fuel (listed.setIfInBounds i true) a' w') a w
theorem wpAny_of_last : ∀ (fuel : Nat) (listed : Array Bool) (a : Act) (w : World), wpAnyLast P md ops Q S ds fuel listed a w → wpAny P md ops Q fuel listed a w
  | 0, _, _, _, h => h
  | fuel + 1, _, _, _, h => ⟨h.1, fun i hi => wpOp_mono (fun a' w' h' => wpAny_of_last fuel _ a' w' h'.2) (h.2 i hi)⟩
theorem wpAnyLast_any {i : Nat} {oi : Oper} {v : Value} (hi : ops[i]? = some oi) (hsel : ∀ (j : Nat) (o : Oper) cs b, ops[j]? = some o → o.op ≠ .select cs b)
    (hQ : ∀ c a w, Q (.panic c) (a.put oi.dst v) w → Q (.panic c) a w) :
    ∀ (fuel : Nat) (listed : Array Bool) (a : Act) (w : World),
      (∀ j oj, ops[j]? = some oj → j ≠ i → listed.getD j true = false → (∀ e ∈ oj.after, Region.binds md e = true → e.on ≠ i) → oi.apart ops oj = true) →
      i ∈ Region.ready md ops listed → Yields P ops oi v a →
      wpAnyLast P md ops Q S ds fuel (listed.setIfInBounds i true) (a.put oi.dst v) w → wpAnyLast P md ops Q S ds (fuel + 1) listed a w := by
  intro fuel
  induction fuel with
  | zero =>
    intro listed a w _ hr hy H
    refine ⟨fun h => (by rw [h] at hr; cases hr), fun j hj => ?_⟩
    by_cases hji : j = i
    · subst hji; exact (hy.yieldsIf (S := fun _ => True)).wpOp hi trivial ⟨fun _ h => h, H⟩
    · have := ready_mono hj hji
      rw [H.1] at this
      cases this
  | succ fuel ih =>
    intro listed a w hfree hr hy H
    refine ⟨fun h => (by rw [h] at hr; cases hr), fun j hj => ?_⟩
    by_cases hji : j = i
    · subst hji; exact (hy.yieldsIf (S := fun _ => True)).wpOp hi trivial ⟨fun _ h => h, H⟩
    · have h1 := H.2 j (ready_mono hj hji)
      obtain ⟨hjun, oj, hoj, hall⟩ := mem_ready.1 hj
      have hiun := (mem_ready.1 hr).1
      have hnot : ∀ e ∈ oj.after, Region.binds md e = true → e.on ≠ i := fun e he hb heq => by
        have h1 := hall e he hb
        rw [heq] at h1
        rcases Nat.lt_or_ge i listed.size with h' | h'
        · simp [h'] at hiun h1; rw [hiun] at h1; cases h1
        · simp [Array.getElem?_eq_none h'] at h1
      have h2 := wpOp_put hoj (hfree j oj hoj hji hjun hnot) (fun cs b => hsel i oi cs b hi) (fun cs b => hsel j oj cs b hoj) hQ hy h1
      have hfree' : ∀ k ok, ops[k]? = some ok → k ≠ i → (listed.setIfInBounds j true).getD k true = false →
          (∀ e ∈ ok.after, Region.binds md e = true → e.on ≠ i) → oi.apart ops ok = true := fun k ok hk hki hun hno => by
        refine hfree k ok hk hki ?_ hno
        by_cases hjk : j = k
        · subst hjk; exact hjun
        · rw [getD_set_ne true hjk] at hun; exact hun
      refine wpOp_mono (fun a' w' h3 => ⟨h3.2.1, ih (listed.setIfInBounds j true) a' w' hfree' (ready_mono hr (Ne.symm hji)) h3.1 ?_⟩) h2
      rw [Array.setIfInBounds_comm _ _ hji]
      exact h3.2.2
theorem wpAnyLast_all {rs : List Nat} {fuel : Nat} {listed : Array Bool} {a : Act} {w : World} (hr : Region.ready md ops listed = rs) (hne : rs ≠ [])
    (h : ∀ i ∈ rs, wpOp P ops Q i (fun a' w' => (i ∉ ds → S w → S w') ∧ wpAnyLast P md ops Q S ds fuel (listed.setIfInBounds i true) a' w') a w) : wpAnyLast P md ops Q S ds (fuel + 1) listed a w :=
  ⟨fun h0 => absurd (hr ▸ h0) hne, hr ▸ h⟩
theorem wpAnyLast_done {listed : Array Bool} {a : Act} {w : World} (hr : Region.ready md ops listed = []) (h : Q .normal a w) :
    ∀ fuel, wpAnyLast P md ops Q S ds fuel listed a w
  | 0 => ⟨hr, h⟩
  | _ + 1 => ⟨fun _ => h, by rw [hr]; simp⟩
theorem wp_region_last {id : Nat} {a : Act} {w : World} (hm : P.follows .mixedOrders = true)
    (h : wpAnyLast P .any ops Q S ds ops.size (Array.replicate ops.size false) a { w with drawn := w.drawn + 1 }) : (Code.region id ops true).wp P Q a w :=
  wp_region_any hm (wpAny_of_last _ _ _ _ h)
end
section
variable {P : Program} {ops : Array Oper} {Q : Exit → Act → World → Prop} {md : Region.Mode} {S : World → Prop} {ds : List Nat}
def AllReadyL (P : Program) (md : Region.Mode) (ops : Array Oper) (Q : Exit → Act → World → Prop) (S : World → Prop) (ds : List Nat) (fuel : Nat) (listed : Array Bool) (a : Act) (w : World) (rs : List Nat) : Prop :=
  ∀ i ∈ rs, wpOp P ops Q i (fun a' w' => (i ∉ ds → S w → S w') ∧ wpAnyLast P md ops Q S ds fuel (listed.setIfInBounds i true) a' w') a w
theorem AllReadyL.nil {fuel : Nat} {listed : Array Bool} {a : Act} {w : World} : AllReadyL P md ops Q S ds fuel listed a w [] := fun _ h => by cases h
theorem AllReadyL.cons {fuel : Nat} {listed : Array Bool} {a : Act} {w : World} {i : Nat} {o : Oper} {rs : List Nat} (ho : ops[i]? = some o) (hd : i ∉ ds)
    (h : ∀ K' : Act → World → Prop, Shut (∀ a w, S w → (S w → wpAnyLast P md ops Q S ds fuel (listed.setIfInBounds i true) a w) → K' a w) → if Region.wanted o (yielded ops a.tmps) = true then Oper.wp P o a w K' Q else K' (a.put o.dst undef) w)
    (hs : AllReadyL P md ops Q S ds fuel listed a w rs) : AllReadyL P md ops Q S ds fuel listed a w (i :: rs) := fun j hj => by
  rcases List.mem_cons.1 hj with rfl | hj
  · exact wpOp_step ho (fun K' hK => h K' (fun a w hS hW => hK a w ⟨fun _ _ => hS, hW hS⟩))
  · exact hs j hj
theorem wpAnyLast_ready {rs : List Nat} {fuel : Nat} {listed : Array Bool} {a : Act} {w : World} (hr : Region.ready md ops listed = rs) (hne : rs ≠ [])
    (h : AllReadyL P md ops Q S ds fuel listed a w rs) : wpAnyLast P md ops Q S ds (fuel + 1) listed a w := wpAnyLast_all hr hne h
theorem start_ {id n : Nat} {a : Act} {w : World} (l : Array Bool) (hm : P.follows .mixedOrders = true) (hn : ops.size = n) (hl : Array.replicate n false = l) (hS : S w.drew)
    (h : S w.drew → wpAnyLast P .any ops Q S ds n l a w.drew) : (Code.region id ops true).wp P Q a w := by
  subst hn
  subst hl
  exact wp_region_last hm (h hS)
def anyB (md : Region.Mode) (ops : Array Oper) (l l' : Array Bool) (i : Nat) : Bool :=
  Region.noSelect ops && Region.free md ops l i && (Region.ready md ops l).contains i && (l.setIfInBounds i true == l')
theorem pure_ {i : Nat} {N : Option Tmp} {oi : Oper} {v : Value} {fuel : Nat} {l : Array Bool} {a : Act} {w : World} (l' : Array Bool) (hi : ops[i]? = some oi) (hN : oi.dst = N) (hc : anyB md ops l l' i = true)
    (hQ : ∀ c a w, Q (.panic c) (a.put oi.dst v) w → Q (.panic c) a w) (hy : Yields P ops oi v a) {a' : Act} (ha : a.put N v = a')
    (h : wpAnyLast P md ops Q S ds fuel l' a' w) : wpAnyLast P md ops Q S ds (fuel + 1) l a w := by
  subst ha
  subst hN
  simp only [anyB, Bool.and_eq_true, beq_iff_eq] at hc
  obtain ⟨⟨⟨h1, h2⟩, h3⟩, h6⟩ := hc
  subst h6
  exact wpAnyLast_any hi (Region.noSelect_spec h1) hQ fuel l a w (Region.free_spec hi h2) (by simpa using h3) hy h
def readyB (md : Region.Mode) (ops : Array Oper) (l l' : Array Bool) (i : Nat) : Bool := (Region.ready md ops l == [i]) && (l.setIfInBounds i true == l')
theorem one_ {i : Nat} {N : Option Tmp} {oi : Oper} {fuel : Nat} {l : Array Bool} {a : Act} {w : World} (l' : Array Bool) (hi : ops[i]? = some oi) (hN : oi.dst = N) (hc : readyB md ops l l' i = true) (hd : i ∉ ds)
    (h : ∀ K : Act → World → Prop, Shut (∀ a' w', S w' → (S w' → wpAnyLast P md ops Q S ds fuel l' a' w') → K a' w') → if Region.wanted oi (yielded ops a.tmps) = true then Oper.wp P oi a w K Q else K (a.put N undef) w) :
    wpAnyLast P md ops Q S ds (fuel + 1) l a w := by
  subst hN
  simp only [readyB, Bool.and_eq_true, beq_iff_eq] at hc
  obtain ⟨h1, h2⟩ := hc
  subst h2
  exact wpAnyLast_ready h1 (by simp) (AllReadyL.cons hi hd (fun K hK => h K hK) AllReadyL.nil)
theorem done_ {l : Array Bool} {a : Act} {w : World} {n : Nat} (hr : (Region.ready md ops l == []) = true) (h : Q .normal a w) : wpAnyLast P md ops Q S ds n l a w := wpAnyLast_done (by simpa using hr) h n
theorem two_ {i j : Nat} {Ni Nj : Option Tmp} {oi oj : Oper} {fuel : Nat} {l : Array Bool} {a : Act} {w : World} (li lj : Array Bool) (hi : ops[i]? = some oi) (hj : ops[j]? = some oj) (hNi : oi.dst = Ni) (hNj : oj.dst = Nj)
    (hc : (Region.ready md ops l == [i, j] && l.setIfInBounds i true == li && l.setIfInBounds j true == lj) = true) (hdi : i ∉ ds) (hdj : j ∉ ds)
    (h1 : ∀ K : Act → World → Prop, Shut (∀ a' w', S w' → (S w' → wpAnyLast P md ops Q S ds fuel li a' w') → K a' w') → if Region.wanted oi (yielded ops a.tmps) = true then Oper.wp P oi a w K Q else K (a.put Ni undef) w)
    (h2 : ∀ K : Act → World → Prop, Shut (∀ a' w', S w' → (S w' → wpAnyLast P md ops Q S ds fuel lj a' w') → K a' w') → if Region.wanted oj (yielded ops a.tmps) = true then Oper.wp P oj a w K Q else K (a.put Nj undef) w) :
    wpAnyLast P md ops Q S ds (fuel + 1) l a w := by
  subst hNi
  subst hNj
  simp only [Bool.and_eq_true, beq_iff_eq] at hc
  obtain ⟨⟨h3, h4⟩, h5⟩ := hc
  subst h4
  subst h5
  exact wpAnyLast_ready h3 (by simp) (AllReadyL.cons hi hdi (fun K hK => h1 K hK) (AllReadyL.cons hj hdj (fun K hK => h2 K hK) AllReadyL.nil))
theorem norm_ {fuel : Nat} {l : Array Bool} {a a' : Act} {w : World} (ha : a = a') (h : wpAnyLast P md ops Q S ds fuel l a' w) : wpAnyLast P md ops Q S ds fuel l a w := by
  subst ha
  exact h
theorem call_ {oi : Oper} {N : Option Tmp} {a : Act} {w : World} {K : Act → World → Prop} (f : FuncId) (args : Array Value) (hw : Region.wanted oi (yielded ops a.tmps) = true) (hN : oi.dst = N) (hrun : (execOp a.eval oi).run P w = .ok (.enter f args) w)
    (h : Calls P f args w fun e w' => ∃ v, e = .returned v ∧ K (a.put N v) w') : if Region.wanted oi (yielded ops a.tmps) = true then Oper.wp P oi a w K Q else K (a.put N undef) w := by
  rw [if_pos hw]
  subst hN
  unfold Oper.wp
  rw [hrun, Oper.upon_enter]
  refine h.mono fun e w'' hh => ?_
  obtain ⟨v, rfl, hk⟩ := hh
  exact hk
theorem enters_ {f : FuncId} {fn : Func} (hf : P.funcs[f]? = some fn) (hname : (fn.name == "runtime.NumGoroutine") = false) (hb : fn.body.isSome = true) (args : Array Value) (w : World) : (callFunc f args).run P w = .ok (.enter f args) w := by
  have h1 : fn.name ≠ "runtime.NumGoroutine" := by simpa using hname
  obtain ⟨c, hc⟩ := Option.isSome_iff_exists.1 hb
  simp [callFunc, hf, h1, hc]
theorem goes_ {oi : Oper} {N : Option Tmp} {a : Act} {w : World} {K : Act → World → Prop} {f : FuncId} {fn : Func} {as_ : Array Operand} {ts : Array TypeId} (hf : P.funcs[f]? = some fn) (hname : (fn.name == "runtime.NumGoroutine") = false) (hb : fn.body.isSome = true) (args : Array Value)
    (hw : Region.wanted oi (yielded ops a.tmps) = true) (hN : oi.dst = N) (hop : oi.op = .call { callee := .value (.func f), args := as_, argTypes := ts }) (hargs : as_.map a.eval = args)
    (h : Calls P f args w fun e w' => ∃ v, e = .returned v ∧ K (a.put N v) w') : if Region.wanted oi (yielded ops a.tmps) = true then Oper.wp P oi a w K Q else K (a.put N undef) w := by
  refine call_ f args hw hN ?_ h
  have he := enters_ hf hname hb args w
  unfold execOp
  simp [hop, resolve, Deferred.ofValue, invoke, Act.eval, hargs, he]
theorem goesL_ {rest : List Oper} {oi : Oper} {a : Act} {w : World} (N : Option Tmp) (hd : oi.dst = N) (hg : oi.guard = none) {f : FuncId} {fn : Func} {as_ : Array Operand} {ts : Array TypeId} (hf : P.funcs[f]? = some fn) (hname : (fn.name == "runtime.NumGoroutine") = false) (hb : fn.body.isSome = true) (args : Array Value)
    (hop : oi.op = .call { callee := .value (.func f), args := as_, argTypes := ts }) (hargs : as_.map a.eval = args)
    (h : Calls P f args w fun e w' => ∃ v, e = .returned v ∧ wpList P ops Q rest (a.put N v) w') : wpList P ops Q (oi :: rest) a w := by
  refine wpList_plain hg fun K hK => ?_
  have he := enters_ hf hname hb args w
  have hrun : (execOp a.eval oi).run P w = .ok (.enter f args) w := by
    unfold execOp
    simp [hop, resolve, Deferred.ofValue, invoke, Act.eval, hargs, he]
  unfold Oper.wp
  rw [hrun, Oper.upon_enter]
  refine h.mono fun e w'' hh => ?_
  obtain ⟨v, rfl, hk⟩ := hh
  subst hd
  exact hK _ _ hk
theorem value_ {oi : Oper} {N : Option Tmp} {a : Act} {w w1 : World} {v : Value} {K : Act → World → Prop} (hw : Region.wanted oi (yielded ops a.tmps) = true) (hN : oi.dst = N) (hrun : (execOp a.eval oi).run P w = .ok (.value v) w1)
    (h : K (a.put N v) w1) : if Region.wanted oi (yielded ops a.tmps) = true then Oper.wp P oi a w K Q else K (a.put N undef) w := by
  rw [if_pos hw]
  subst hN
  unfold Oper.wp
  rw [hrun]
  exact h
theorem skip_ {oi : Oper} {a : Act} {w w1 : World} {K : Act → World → Prop} (hw : Region.wanted oi (yielded ops a.tmps) = true) (hN : oi.dst = none) (hrun : (execOp a.eval oi).run P w = .ok .skip w1)
    (h : K a w1) : if Region.wanted oi (yielded ops a.tmps) = true then Oper.wp P oi a w K Q else K (a.put none undef) w := by
  rw [if_pos hw]
  unfold Oper.wp
  rw [hrun]
  show K (a.put oi.dst undef) w1
  rw [hN]
  exact h
theorem i64_w (n : Int) : IntKind.i64.wrap n = Go.RowKit.wrap64 n := by unfold Go.RowKit.wrap64; exact IntKind.wrap_i64 n
theorem i32_w (n : Int) : IntKind.i32.wrap n = Go.RowKit.wrap32 n := by unfold Go.RowKit.wrap32; exact IntKind.wrap_i32 n
end
end Go.Proofs.YtngeelpfbajppaaDoorW.PrintLast
end
section
namespace Go.Proofs.YtngeelpfbajppaaDoor.Bs
open Go Go.RowKit
theorem u8_tri (a b : UInt8) : a < b ∨ a = b ∨ b < a := by
  rcases Nat.lt_trichotomy a.toNat b.toNat with h | h | h
  · exact .inl (UInt8.lt_iff_toNat_lt.mpr h)
  · exact .inr (.inl (UInt8.toNat_inj.mp h))
  · exact .inr (.inr (UInt8.lt_iff_toNat_lt.mpr h))
theorem u8_irrefl (a : UInt8) : ¬ a < a := fun h => Nat.lt_irrefl _ (UInt8.lt_iff_toNat_lt.mp h)
theorem u8_asymm {a b : UInt8} (h : a < b) : ¬ b < a := fun h' => Nat.lt_asymm (UInt8.lt_iff_toNat_lt.mp h) (UInt8.lt_iff_toNat_lt.mp h')
theorem bytesLess_or : ∀ a b : List UInt8, (Op.bytesLess a b || a == b) = !(Op.bytesLess b a)
  | [], [] => rfl
  | [], _ :: _ => by simp [Op.bytesLess]
  | _ :: _, [] => by simp [Op.bytesLess]
  | x :: a, y :: b => by
    have ih := bytesLess_or a b
    rcases u8_tri x y with h | h | h
    · have h1 := u8_asymm h
      have h2 : ¬ y = x := fun e => u8_irrefl x (e ▸ h)
      simp [Op.bytesLess, h, h1, h2]
    · subst h
      simp only [Op.bytesLess, u8_irrefl x, decide_false, Bool.false_or, BEq.rfl, Bool.true_and]
      rw [← ih]
      simp
    · have h1 := u8_asymm h
      have h2 : ¬ x = y := fun e => u8_irrefl x (e ▸ h)
      simp [Op.bytesLess, h, h1, h2]
theorem gtr_bl (t : TypeId) (a b : ByteArray) : binOp .gtr t (.string a) (.string b) = pure (.bool (Op.bytesLess b.toList a.toList)) := by
  rw [binOp_string_gtr, bytesLess_or]; simp
theorem leq_bl (t : TypeId) (a b : ByteArray) : binOp .leq t (.string a) (.string b) = pure (.bool (!Op.bytesLess b.toList a.toList)) := by
  rw [binOp_string_leq, bytesLess_or]
theorem isEmpty_bne (l : List UInt8) : (l != []) = !l.isEmpty := by cases l <;> rfl
theorem isEmpty_beq (l : List UInt8) : (l == []) = l.isEmpty := by cases l <;> rfl
theorem cell_set2 (w : World) (a : Addr) (x y : Value) (h : (w.cell? a).isSome = true) : ((w.setCell a x).setCell a y).cell? a = some y := by
  obtain ⟨v, hv⟩ := Option.isSome_iff_exists.mp h
  exact World.cell?_setCell_same _ _ _ (World.cell?_setCell_same w a x hv)
structure Gl (w : World) : Prop where
  mk0 ::
  triv : True
  maxLen : ∃ m, w.cell? ⟨2, 0, none⟩ = some (.int .i64 m)
  pow10 : Lib.TabIs Tryd.prog w "internal/strconv.uint64pow10" .u64 Lib.pow10Tab
theorem Gl.below {w w' : World} (h : Gl w) (hb : Below w.heap.size w w') : Gl w' :=
  { triv := trivial
    maxLen := by obtain ⟨m, hm⟩ := h.maxLen; exact ⟨m, (hb.cell (p := ⟨2, 0, none⟩) (World.block_lt_of_cell? _ _ hm)).trans hm⟩
    pow10 := Lib.tabBelow_of_tabIs h.pow10 w' hb
  }
theorem Gl.drewN {w : World} (h : Gl w) (n : Nat) : Gl (w.drewN n) := h.below (Go.Proofs.YtngeelpfbajppaaDoorW.PrintWords.pw_below_drewN (Below.refl _ _) n)
end Go.Proofs.YtngeelpfbajppaaDoor.Bs
end
section
namespace Go.Proofs.YtngeelpfbajppaaDoorW.PrintLast
open Go.Proofs.YtngeelpfbajppaaDoorW.PrintWords (Aside0)
def needsOf (md : Region.Mode) (o : Oper) : List Nat := (o.after.toList.filter (fun e => Region.binds md e)).map (fun e => e.on)
def clashOf (md : Region.Mode) (ops : Array Oper) (i : Nat) (oi : Oper) : List Nat := (List.range ops.size).filter fun j => !(j == i) && match ops[j]? with
  | some oj => !(oj.after.any (fun e => Region.binds md e && e.on == i) || oi.apart ops oj)
  | none => false
def rtab (md : Region.Mode) (ops : Array Oper) : Bool × List (List Nat × List Nat) := (Region.noSelect ops, (List.range ops.size).map fun i => match ops[i]? with
  | some o => (needsOf md o, clashOf md ops i o)
  | none => ([], []))
def readyAt (T : List (List Nat × List Nat)) (l : List Bool) (i : Nat) : Bool := !l.getD i true && match T[i]? with
  | some r => r.1.all (fun j => l.getD j false)
  | none => false
def readyT (T : List (List Nat × List Nat)) (l : List Bool) : List Nat := (List.range T.length).filter (readyAt T l)
def freeT (T : List (List Nat × List Nat)) (l : List Bool) (i : Nat) : Bool := match T[i]? with
  | some r => r.2.all (fun j => l.getD j true)
  | none => false
section
variable {md : Region.Mode} {ops : Array Oper} {T : Bool × List (List Nat × List Nat)} {l l' li lj lk : Array Bool} {ds : List Nat} {i j k : Nat}
theorem gd (l : Array Bool) (j : Nat) (b : Bool) : l.getD j b = l.toList.getD j b := by simp [Array.getD_eq_getD_getElem?, List.getD_eq_getElem?_getD]
theorem needs_all (o : Oper) (p : Nat → Bool) : o.after.all (fun e => !Region.binds md e || p e.on) = (needsOf md o).all p := by
  unfold needsOf
  rw [← Array.all_toList]
  induction o.after.toList with
  | nil => rfl
  | cons e r ih =>
    rw [List.all_cons, ih, List.filter_cons]
    cases h : Region.binds md e <;> simp
theorem rtab_length : (rtab md ops).2.length = ops.size := by simp [rtab]
theorem rtab_some {o : Oper} (h : ops[i]? = some o) : (rtab md ops).2[i]? = some (needsOf md o, clashOf md ops i o) := by
  have hi := (Array.getElem?_eq_some_iff.1 h).1
  unfold rtab
  rw [List.getElem?_map, List.getElem?_range hi, Option.map_some, h]
theorem rtab_none (h : ops[i]? = none) : (rtab md ops).2[i]? = none := by
  have hi : ops.size ≤ i := Array.getElem?_eq_none_iff.1 h
  exact List.getElem?_eq_none (by rw [rtab_length]; exact hi)
theorem readyAt_eq : readyAt (rtab md ops).2 l.toList i = (!l.getD i true && ((ops[i]?).map (·.after.all fun e => !Region.binds md e || l.getD e.on false)).getD false) := by
  unfold readyAt
  rw [gd]
  cases h : ops[i]? with
  | none => rw [rtab_none h]; rfl
  | some o =>
    rw [rtab_some h]
    simp only [Option.map_some, Option.getD_some]
    rw [← needs_all]
    simp only [gd]
theorem ready_eq : Region.ready md ops l = readyT (rtab md ops).2 l.toList := by
  unfold Region.ready readyT
  rw [rtab_length]
  refine List.filter_congr (fun i _ => ?_)
  rw [readyAt_eq]
theorem free_eq : Region.free md ops l i = freeT (rtab md ops).2 l.toList i := by
  unfold Region.free freeT
  cases h : ops[i]? with
  | none => rw [rtab_none h]
  | some oi =>
    rw [rtab_some h]
    simp only [clashOf]
    rw [List.all_filter]
    congr 1
    funext j
    rw [gd]
    cases hj : ops[j]? with
    | none => cases (j == i) <;> cases (l.toList.getD j true) <;> simp
    | some oj =>
      cases (j == i) <;> cases (l.toList.getD j true) <;> cases (oj.after.any (fun e => Region.binds md e && e.on == i) || oi.apart ops oj) <;> simp_all
theorem readyAt_mem (h : readyAt T.2 l.toList i = true) (hT : rtab md ops = T) : (Region.ready md ops l).contains i = true := by
  subst hT
  rw [ready_eq]
  unfold readyT
  rw [List.contains_iff_mem, List.mem_filter, List.mem_range]
  refine ⟨?_, h⟩
  unfold readyAt at h
  rw [Bool.and_eq_true] at h
  cases hq : (rtab md ops).2[i]? with
  | none => rw [hq] at h; simp at h
  | some r => exact (List.getElem?_eq_some_iff.1 hq).1
theorem set_of (h : (l.toList.set i true == l'.toList) = true) : (l.setIfInBounds i true == l') = true := by
  rw [beq_iff_eq] at h ⊢
  apply Array.ext'
  rw [Array.toList_setIfInBounds]
  exact h
def anyT (T : Bool × List (List Nat × List Nat)) (l l' : List Bool) (i : Nat) : Bool := T.1 && freeT T.2 l i && readyAt T.2 l i && (l.set i true == l')
theorem any_of (hT : rtab md ops = T) (h : anyT T l.toList l'.toList i = true) : anyB md ops l l' i = true := by
  simp only [anyT, Bool.and_eq_true] at h
  obtain ⟨⟨⟨h1, h2⟩, h3⟩, h4⟩ := h
  have h5 := readyAt_mem h3 hT
  have h6 := set_of h4
  subst hT
  simp only [anyB, Bool.and_eq_true]
  exact ⟨⟨⟨h1, by rw [free_eq]; exact h2⟩, h5⟩, h6⟩
theorem one_of (hT : rtab md ops = T) (h : (readyT T.2 l.toList == [i] && l.toList.set i true == l'.toList) = true) : readyB md ops l l' i = true := by
  simp only [Bool.and_eq_true] at h
  obtain ⟨h1, h2⟩ := h
  subst hT
  simp only [readyB, Bool.and_eq_true]
  exact ⟨by rw [ready_eq]; exact h1, set_of h2⟩
theorem done_of (hT : rtab md ops = T) (h : (readyT T.2 l.toList == []) = true) : (Region.ready md ops l == []) = true := by
  subst hT
  rw [ready_eq]
  exact h
def upM (B : List Nat) (d : Nat) : List Nat → Nat
  | [] => 0
  | n :: r => (2 ^ n ||| (if n < d then B.getD n 0 else 0)) ||| upM B d r
def waitsOk (T : List (List Nat × List Nat)) (B : List Nat) : Bool := (List.range T.length).all fun d => match T[d]? with
  | some r => (B.getD d 0 ||| upM B d r.1) == upM B d r.1
  | none => false
theorem with_tabW {P : Program} {Q : Exit → Act → World → Prop} {S : World → Prop} {n : Nat} {a : Act} {w : World} {B : List Nat} (hT : rtab md ops = T) (hB : waitsOk T.2 B = true) (h : Aside0 (rtab md ops = T) → Aside0 (waitsOk T.2 B = true) → wpAnyLast P md ops Q S ds n l a w) : wpAnyLast P md ops Q S ds n l a w := h ⟨hT⟩ ⟨hB⟩
end
def opsIn : Code → Nat → Option (Array Oper)
  | .region id ops _, k => if id == k then some ops else none
  | .seq a b, k => match opsIn a k with
    | some o => some o
    | none => opsIn b k
  | .cond _ a b, k => match opsIn a k with
    | some o => some o
    | none => opsIn b k
  | .block _ c, k => opsIn c k
  | .loop c, k => opsIn c k
  | .scope c, k => opsIn c k
  | .rangeFunc _ _ a b, k => match opsIn a k with
    | some o => some o
    | none => opsIn b k
  | _, _ => none
def opsOf (f : Func) (k : Nat) : Array Oper := ((f.body.bind fun c => opsIn c k)).getD #[]
end Go.Proofs.YtngeelpfbajppaaDoorW.PrintLast
end
section
namespace Go.Proofs.YtngeelpfbajppaaDoorW.PrintLast
section
variable {P : Program} {ops : Array Oper} {Q : Exit → Act → World → Prop} {md : Region.Mode} {S : World → Prop} {ds : List Nat} {T : Bool × List (List Nat × List Nat)}
end
end Go.Proofs.YtngeelpfbajppaaDoorW.PrintLast
end
section
namespace Go.Proofs.YtngeelpfbajppaaDoorW.PrintWords
open Go.RowKit
namespace Kd
section
variable {α : Type} {d : Kd α} {e base g o n cap : Nat} {ok okp : Nat → Prop} {w W : World} {v : Value} {xs : List α}
end
section
variable {α : Type} {enc : α → Value} {h1 : ∀ x, (enc x).oneCell' = true} {e base g o n cap : Nat} {ok : Nat → Prop} {W : World} {xs : List α}
end
end Kd
end Go.Proofs.YtngeelpfbajppaaDoorW.PrintWords
end
section
namespace Go.Proofs.YtngeelpfbajppaaDoorW.PrintWords
open Go.RowKit
namespace Kd
def tag {α : Type} (f : Nat → Nat) (d : Kd α) : Kd (α × Nat) where
  sz := d.sz
  E := d.E
  K := fun w x cs => d.K w x.1 cs
  M := fun w base ok x cs => d.M w base (fun k => ok k ∧ f k = x.2) x.1 cs
  K_len := fun h => d.K_len h
  K_one := fun h => d.K_one h
  K_below := fun hb h => d.K_below hb h
  K_of_M := fun h => d.K_of_M h
  M_mono := fun hok h => d.M_mono (fun k hk => ⟨hok k hk.1, hk.2⟩) h
  M_bound := fun h => d.M_mono (fun _ hk => ⟨⟨hk.1.1, hk.2⟩, hk.1.2⟩) (d.M_bound h)
  M_move := fun hm h => d.M_move (fun k hk => hm k hk.1) h
  M_lower := fun hb h => d.M_lower hb h
def raw (sz : Nat) : Kd (List Value) where
  sz := sz
  E := []
  K := fun _ x cs => cs = x ∧ cs.length = sz ∧ ∀ u ∈ cs, u.oneCell' = true
  M := fun _ _ _ x cs => cs = x ∧ cs.length = sz ∧ ∀ u ∈ cs, u.oneCell' = true
  K_len := fun h => h.2.1
  K_one := fun h => h.2.2
  K_below := fun _ h => h
  K_of_M := fun h => h
  M_mono := fun _ h => h
  M_bound := fun h => h
  M_move := fun _ h => h
  M_lower := fun _ h => h
def S {α : Type} (d : Kd α) (e : Nat) (w : World) (base : Nat) (ok : Nat → Prop) (v : Value) (xs : List α) : Prop := ∃ f, (tag f d).R e w base ok v xs.zipIdx
section
variable {α β : Type} {d : Kd α} {d' : Kd β} {e e' : Nat} {w w1 W : World} {base b : Nat} {ok ok' okv oku : Nat → Prop} {u v : Value} {xs : List α} {ys : List β}
theorem S_nil (d : Kd α) (e : Nat) (w : World) (base : Nat) (ok : Nat → Prop) : S d e w base ok (.slice none 0 0) [] := ⟨fun _ => 0, R_nil _ _ _ _ _⟩
end
section
variable {α β : Type} {d : Kd α} {d' : Kd β} {e e' g : Nat} {w w1 W : World} {base b : Nat} {ok ok' okv oku : Nat → Prop} {u v : Value} {xs : List α} {ys : List β}
end
section
variable {P : Program} {ops : Array Oper} {rest : List Oper} {o : Oper} {a : Act} {Q : Exit → Act → World → Prop} {Kc : Act → World → Prop} {α : Type}
end
def gap {α : Type} (f : Nat → Nat) (d : Kd α) (i : Nat) (c : List Value) : Kd (α × Nat) where
  sz := d.sz
  E := d.E
  K := fun w x cs => (x.2 = i → cs = c ∧ cs.length = d.sz ∧ ∀ u ∈ cs, u.oneCell' = true) ∧ (x.2 ≠ i → d.K w x.1 cs)
  M := fun w base ok x cs => (x.2 = i → cs = c ∧ cs.length = d.sz ∧ ∀ u ∈ cs, u.oneCell' = true) ∧ (x.2 ≠ i → d.M w base (fun k => ok k ∧ f k = x.2) x.1 cs)
  K_len := fun {w x cs} h => by
    by_cases hx : x.2 = i
    · exact (h.1 hx).2.1
    · exact d.K_len (h.2 hx)
  K_one := fun {w x cs} h => by
    by_cases hx : x.2 = i
    · exact (h.1 hx).2.2
    · exact d.K_one (h.2 hx)
  K_below := fun hb h => ⟨h.1, fun hx => d.K_below hb (h.2 hx)⟩
  K_of_M := fun h => ⟨h.1, fun hx => d.K_of_M (h.2 hx)⟩
  M_mono := fun hok h => ⟨h.1, fun hx => d.M_mono (fun k hk => ⟨hok k hk.1, hk.2⟩) (h.2 hx)⟩
  M_bound := fun h => ⟨h.1, fun hx => d.M_mono (fun _ hk => ⟨⟨hk.1.1, hk.2⟩, hk.1.2⟩) (d.M_bound (h.2 hx))⟩
  M_move := fun hm h => ⟨h.1, fun hx => d.M_move (fun k hk => hm k hk.1) (h.2 hx)⟩
  M_lower := fun hb h => ⟨h.1, fun hx => d.M_lower hb (h.2 hx)⟩
def H {α : Type} (d : Kd α) (e : Nat) (w : World) (base : Nat) (ok : Nat → Prop) (v : Value) (xs : List α) (i : Int) (oki : Nat → Prop) (c : List Value) : Prop :=
  (∀ k, oki k → ok k) ∧ ∃ f, (gap f d i.toNat c).R e w base (fun k => ok k ∧ ¬ oki k) v xs.zipIdx
section
variable {α β : Type} {d : Kd α} {e e' g n cap : Nat} {w w1 W : World} {base : Nat} {ok ok' oki okp : Nat → Prop} {u v : Value} {xs : List α} {i : Int} {c : List Value}
end
section
variable {P : Program} {ops : Array Oper} {rest : List Oper} {o : Oper} {a : Act} {Q : Exit → Act → World → Prop} {α : Type}
end
end Kd
end Go.Proofs.YtngeelpfbajppaaDoorW.PrintWords
end
section
namespace Go.Proofs.YtngeelpfbajppaaDoorW.PrintWords
open Go.RowKit
namespace Kd
section
variable {α : Type} {n : Nat} {d : Kd α} {hs : 0 < d.sz} {w : World} {base : Nat} {ok : Nat → Prop} {xs : List α} {cs : List Value}
end
section
variable {α : Type} {n : Nat} {enc : α → Value} {h1 : ∀ x, (enc x).oneCell' = true} {hs : 0 < (scalar enc h1).sz} {w : World} {base : Nat} {ok : Nat → Prop} {xs : List α} {cs : List Value}
end
end Kd
end Go.Proofs.YtngeelpfbajppaaDoorW.PrintWords
end
section
namespace Go.Proofs.YtngeelpfbajppaaDoorW.PrintWords
open Go.RowKit
section
variable {P : Program}
end
namespace Kd
section
variable {P : Program} {ops : Array Oper} {rest : List Oper} {o : Oper} {a : Act} {Q : Exit → Act → World → Prop} {Kc : Act → World → Prop} {α : Type}
end
section
variable {α : Type} {d : Kd α} {e : Nat} {w : World} {base : Nat} {ok : Nat → Prop} {v : Value} {xs : List α}
end
section
variable {P : Program} {ops : Array Oper} {rest : List Oper} {o : Oper} {a : Act} {Q : Exit → Act → World → Prop} {Kc : Act → World → Prop} {α : Type}
end
end Kd
end Go.Proofs.YtngeelpfbajppaaDoorW.PrintWords
end
section
namespace Go.Proofs.YtngeelpfbajppaaDoorW.PrintWords
open Go.RowKit
namespace Kd
section
variable {α : Type} {d : Kd α} {e base g n c : Nat} {ok : Nat → Prop} {w w0 W : World} {A : Option Addr} {xs : List α}
end
end Kd
end Go.Proofs.YtngeelpfbajppaaDoorW.PrintWords
end
section
namespace Go.Proofs.YtngeelpfbajppaaDoorW.PrintWords
open Go.RowKit
section
variable {w W W2 : World} {S S2 S' : Nat → Prop}
end
namespace Kd
section
variable {α : Type} {d : Kd α} {e base n c : Nat} {ok oki S S2 : Nat → Prop} {w w0 W W1 W2 : World} {v : Value} {A : Option Addr} {xs : List α} {i : Int} {cs : List Value}
end
end Kd
end Go.Proofs.YtngeelpfbajppaaDoorW.PrintWords
end
section
namespace Go.Proofs.YtngeelpfbajppaaDoorW.PrintWords
open Go.RowKit
def Foot (P : World → Prop) (W : World) (ok : Nat → Prop) : Prop := ∀ W' : World, (∀ k, ok k → k < W.heap.size → W'.heap[k]? = W.heap[k]?) → P W'
theorem heap_lt {W W1 : World} {k : Nat} (h : W1.heap[k]? = W.heap[k]?) (hlt : k < W.heap.size) : k < W1.heap.size := by
  rw [Array.getElem?_eq_getElem hlt] at h
  exact (Array.getElem?_eq_some_iff.1 h).1
namespace Foot
variable {P Q : World → Prop} {W W1 : World} {ok ok' : Nat → Prop}
theorem mono (h : Foot P W ok) (hok : ∀ k, ok k → ok' k) : Foot P W ok' := fun W' hW => h W' (fun k hk hlt => hW k (hok k hk) hlt)
theorem bound (h : Foot P W ok) : Foot P W (fun k => ok k ∧ k < W.heap.size) := fun W' hW => h W' (fun k hk hlt => hW k ⟨hk, hlt⟩ hlt)
theorem step (h : Foot P W ok) (hm : ∀ k, ok k → k < W.heap.size → W1.heap[k]? = W.heap[k]?) : Foot P W1 ok := fun W' hW => h W' (fun k hk hlt => (hW k hk (heap_lt (hm k hk hlt) hlt)).trans (hm k hk hlt))
theorem old (h : Foot P W ok) (hb : Below W.heap.size W W1) : Foot P W1 (fun k => ok k ∧ k < W.heap.size) := (h.bound).step (fun k _ hlt => hb.block k hlt)
end Foot
namespace Kd
def F {α : Type} (d : Kd α) (W : World) (ok : Nat → Prop) (A : Option Addr) (n : Nat) (xs : List α) : Prop := Foot (fun W => d.C W A n xs) W ok
def FK {α : Type} (d : Kd α) (W : World) (ok : Nat → Prop) (x : α) (c : List Value) : Prop := Foot (fun W => d.K W x c) W ok
section
variable {α β : Type} {d : Kd α} {e base n n' cc g N : Nat} {ok ok' okp S : Nat → Prop} {w w0 w1 W W1 : World} {A A' : Option Addr} {u v v1 : Value} {xs : List α} {xs' : List β} {d' : Kd β} {x : α} {c : List Value}
theorem F_nil (d : Kd α) (W : World) (ok : Nat → Prop) : F d W ok none ([] : List α).length [] := fun W' _ => C_nil d W'
theorem FK_of_M (h : d.M W base ok x c) : FK d W ok x c := fun _ hW => d.K_of_M (M_step h hW)
end
end Kd
end Go.Proofs.YtngeelpfbajppaaDoorW.PrintWords
end
section
namespace Go.Proofs.YtngeelpfbajppaaDoorW.PrintWords
open Go.RowKit
namespace Kd
def chunks (sz : Nat) (n : Nat) (inner : List Value) : List (List Value) := (List.range n).map fun j => (inner.drop (j * sz)).take sz
theorem chunks_length (sz n : Nat) (inner : List Value) : (chunks sz n inner).length = n := by simp [chunks]
theorem chunks_at {sz n : Nat} {inner : List Value} {j : Nat} (hj : j < n) : (chunks sz n inner)[j]? = some ((inner.drop (j * sz)).take sz) := by simp [chunks, hj]
theorem chunks_get {sz n : Nat} {inner : List Value} {j : Nat} {c : List Value} (h : (chunks sz n inner)[j]? = some c) : c = (inner.drop (j * sz)).take sz := by
  have hj : j < n := by have := (List.getElem?_eq_some_iff.1 h).1; rwa [chunks_length] at this
  rw [chunks_at hj] at h
  injection h with h
  exact h.symm
theorem reps_raw {α : Type} {Rr : α → List Value → Prop} {sz : Nat} {xs : List α} {inner : List Value} (h : Reps Rr sz xs inner) (hR : ∀ x c, Rr x c → c.length = sz ∧ ∀ u ∈ c, u.oneCell' = true) : Reps (fun x cs => cs = x ∧ cs.length = sz ∧ ∀ u ∈ cs, u.oneCell' = true) sz (chunks sz xs.length inner) inner := by
  refine ⟨by rw [chunks_length]; exact h.1, fun j p hj => ?_⟩
  have hjl : j < xs.length := by have := (List.getElem?_eq_some_iff.1 hj).1; rwa [chunks_length] at this
  have hp := chunks_get hj
  exact ⟨hp.symm, hR _ _ (h.2 j _ (List.getElem?_eq_getElem hjl))⟩
section
variable {α : Type} {d : Kd α} {e base n cc g : Nat} {ok ok' okp S : Nat → Prop} {w w1 W W1 : World} {A : Option Addr} {u v v1 : Value} {xs : List α} {x : α} {c : List Value}
def N {α : Type} (d : Kd α) (e : Nat) (w : World) (base : Nat) (ok : Nat → Prop) (v : Value) (xs : List α) : Prop :=
  (∀ k, v.ownBlock = some k → ok k) ∧ ∃ rows : List (List Value), rows.length = xs.length ∧ (raw d.sz).R e w base (fun k => some k = v.ownBlock) v rows ∧ ∀ (j : Nat) (x : α) (c : List Value), xs[j]? = some x → rows[j]? = some c → FK d w (fun k => ok k ∧ some k ≠ v.ownBlock) x c
theorem R_N (h : d.R e w base ok v xs) : N d e w base ok v xs := by
  obtain ⟨h0, inner, ho, hr⟩ := h
  refine ⟨h0, chunks d.sz xs.length inner, chunks_length _ _ _, ⟨fun k hk => hk.symm, inner, by rw [chunks_length]; exact ho, reps_raw hr (fun x c hp => ⟨d.K_len (d.K_of_M hp), d.K_one (d.K_of_M hp)⟩)⟩, fun j x c hx hc => ?_⟩
  rw [chunks_get hc]
  exact FK_of_M (hr.2 j x hx)
theorem N_nil (d : Kd α) (e : Nat) (w : World) (base : Nat) (ok : Nat → Prop) : N d e w base ok (.slice none 0 0) [] := R_N (R_nil _ _ _ _ _)
end
end Kd
end Go.Proofs.YtngeelpfbajppaaDoorW.PrintWords
end
section
namespace Go.Proofs.YtngeelpfbajppaaDoorW.PrintWords
open Go.RowKit
namespace Kd
section
variable {α : Type} {d : Kd α} {W : World} {g n : Nat} {S ok : Nat → Prop} {A : Option Addr} {ad : Addr} {xs : List α}
end
end Kd
end Go.Proofs.YtngeelpfbajppaaDoorW.PrintWords
end
section
namespace Go.Proofs.YtngeelpfbajppaaDoorW.PrintWords
open Go.RowKit
section
variable {w w' u : World} {m B g : Nat} {o : Obj} {row : Option Nat} {S : Nat → Prop} {a : Addr} {v : Value}
end
namespace Kd
section
variable {α : Type} {d : Kd α} {e base n m : Nat} {ok : Nat → Prop} {w w' : World} {v : Value} {A : Option Addr} {xs : List α}
end
end Kd
end Go.Proofs.YtngeelpfbajppaaDoorW.PrintWords
end
section
namespace Go.Proofs.YtngeelpfbajppaaDoorW.PrintWords
open Go.RowKit
section
variable {P : Program} {d : Nat} {xs ys : Array Value} {f : Field} {fs : List Field} {a b : Value} {r s : Bool} {w : World}
theorem eqf_last (hn : (f.name == "_") = false) (ha : (part f.type xs f.offset).run P w = .ok a w) (hb : (part f.type ys f.offset).run P w = .ok b w) (he : (Op.equalIn d f.type a b).run P w = .ok r w) : (Op.eqFields d xs ys [f]).run P w = .ok r w := by
  have hn' : f.name ≠ "_" := by simpa using hn
  simp only [Op.eqFields, if_pos hn', Sem.run_bind, ha, hb, he, Result.andThen_ok]
  cases r <;> simp
theorem eqf_cons (hn : (f.name == "_") = false) (ha : (part f.type xs f.offset).run P w = .ok a w) (hb : (part f.type ys f.offset).run P w = .ok b w) (he : (Op.equalIn d f.type a b).run P w = .ok r w) (hr : (Op.eqFields d xs ys fs).run P w = .ok s w) : (Op.eqFields d xs ys (f :: fs)).run P w = .ok (r && s) w := by
  have hn' : f.name ≠ "_" := by simpa using hn
  rw [Op.eqFields]
  simp only [if_pos hn', Sem.run_bind, ha, hb, he, Result.andThen_ok]
  cases r
  · simp
  · simpa using hr
theorem eqA_of {t : TypeId} {fs : Array Field} (hu : P.underlying t = some (.struct fs)) (hp : P.stoodInHeld t = false) (h : (Op.eqFields d xs ys fs.toList).run P w = .ok r w) : (Op.equalIn (d + 1) t (.agg xs) (.agg ys)).run P w = .ok r w := by
  have hf : P.fieldsOf t = fs := by simp [Program.fieldsOf, hu]
  rw [run_equalIn_struct (P := P) w d t xs ys (by rw [hf]; exact hu) hp, hf]
  exact h
end
end Go.Proofs.YtngeelpfbajppaaDoorW.PrintWords
end
section
namespace Go.Proofs.YtngeelpfbajppaaDoorW.PrintWords
theorem Reps.one {α : Type} {R : α → List Value → Prop} {ps : List α} {cs : List Value} {p : α} {v : Value} (hp : R p [v]) (h : Reps R 1 ps cs) : Reps R 1 (p :: ps) (v :: cs) := by
  refine ⟨by simp [h.1], fun j q hq => ?_⟩
  cases j with
  | zero =>
    simp only [List.getElem?_cons_zero, Option.some.injEq] at hq
    subst hq
    simpa using hp
  | succ j =>
    simp only [List.getElem?_cons_succ] at hq
    have h1 := h.2 j q hq
    simpa [Nat.mul_one] using h1
theorem Reps.front {α : Type} {R : α → List Value → Prop} {size : Nat} {ps : List α} {cs c all : List Value} {p : α} (hp : R p c) (hc : c.length = size) (h : Reps R size ps cs) (ha : c ++ cs = all) : Reps R size (p :: ps) all := by
  subst ha
  refine ⟨by rw [List.length_append, hc, h.1, List.length_cons, Nat.succ_mul, Nat.add_comm], fun j q hq => ?_⟩
  cases j with
  | zero =>
    simp only [List.getElem?_cons_zero, Option.some.injEq] at hq
    subst hq
    rw [Nat.zero_mul, List.drop_zero, List.take_append_of_le_length (by omega), List.take_of_length_le (by omega)]
    exact hp
  | succ j =>
    simp only [List.getElem?_cons_succ] at hq
    have h1 := h.2 j q hq
    rw [Nat.succ_mul, List.drop_append, List.drop_of_length_le (by rw [hc]; exact Nat.le_add_left _ _), List.nil_append, hc, Nat.add_sub_cancel]
    exact h1
theorem Reps.c2 {α : Type} {R : α → List Value → Prop} {ps : List α} {cs : List Value} {p : α} {va vb : Value} (hp : R p [va, vb]) (h : Reps R 2 ps cs) : Reps R 2 (p :: ps) (va :: vb :: cs) := Reps.front hp rfl h rfl
theorem Reps.c3 {α : Type} {R : α → List Value → Prop} {ps : List α} {cs : List Value} {p : α} {va vb vc : Value} (hp : R p [va, vb, vc]) (h : Reps R 3 ps cs) : Reps R 3 (p :: ps) (va :: vb :: vc :: cs) := Reps.front hp rfl h rfl
theorem Reps.c4 {α : Type} {R : α → List Value → Prop} {ps : List α} {cs : List Value} {p : α} {va vb vc vd : Value} (hp : R p [va, vb, vc, vd]) (h : Reps R 4 ps cs) : Reps R 4 (p :: ps) (va :: vb :: vc :: vd :: cs) := Reps.front hp rfl h rfl
theorem Reps.c5 {α : Type} {R : α → List Value → Prop} {ps : List α} {cs : List Value} {p : α} {va vb vc vd ve : Value} (hp : R p [va, vb, vc, vd, ve]) (h : Reps R 5 ps cs) : Reps R 5 (p :: ps) (va :: vb :: vc :: vd :: ve :: cs) := Reps.front hp rfl h rfl
theorem Reps.c6 {α : Type} {R : α → List Value → Prop} {ps : List α} {cs : List Value} {p : α} {va vb vc vd ve vf : Value} (hp : R p [va, vb, vc, vd, ve, vf]) (h : Reps R 6 ps cs) : Reps R 6 (p :: ps) (va :: vb :: vc :: vd :: ve :: vf :: cs) := Reps.front hp rfl h rfl
theorem Reps.c7 {α : Type} {R : α → List Value → Prop} {ps : List α} {cs : List Value} {p : α} {va vb vc vd ve vf vg : Value} (hp : R p [va, vb, vc, vd, ve, vf, vg]) (h : Reps R 7 ps cs) : Reps R 7 (p :: ps) (va :: vb :: vc :: vd :: ve :: vf :: vg :: cs) := Reps.front hp rfl h rfl
theorem Reps.c8 {α : Type} {R : α → List Value → Prop} {ps : List α} {cs : List Value} {p : α} {va vb vc vd ve vf vg vh : Value} (hp : R p [va, vb, vc, vd, ve, vf, vg, vh]) (h : Reps R 8 ps cs) : Reps R 8 (p :: ps) (va :: vb :: vc :: vd :: ve :: vf :: vg :: vh :: cs) := Reps.front hp rfl h rfl
theorem Reps.c9 {α : Type} {R : α → List Value → Prop} {ps : List α} {cs : List Value} {p : α} {va vb vc vd ve vf vg vh vi : Value} (hp : R p [va, vb, vc, vd, ve, vf, vg, vh, vi]) (h : Reps R 9 ps cs) : Reps R 9 (p :: ps) (va :: vb :: vc :: vd :: ve :: vf :: vg :: vh :: vi :: cs) := Reps.front hp rfl h rfl
theorem Reps.c10 {α : Type} {R : α → List Value → Prop} {ps : List α} {cs : List Value} {p : α} {va vb vc vd ve vf vg vh vi vj : Value} (hp : R p [va, vb, vc, vd, ve, vf, vg, vh, vi, vj]) (h : Reps R 10 ps cs) : Reps R 10 (p :: ps) (va :: vb :: vc :: vd :: ve :: vf :: vg :: vh :: vi :: vj :: cs) := Reps.front hp rfl h rfl
end Go.Proofs.YtngeelpfbajppaaDoorW.PrintWords
end
section
namespace Go.Proofs.YtngeelpfbajppaaDoorW.PrintLast
section
variable {P : Program} {ops : Array Oper} {Q : Exit → Act → World → Prop} {md : Region.Mode} {T : Bool × List (List Nat × List Nat)} {B : List Nat} {O : List Nat} {b : Nat → Bool} {i j n : Nat}
end
end Go.Proofs.YtngeelpfbajppaaDoorW.PrintLast
end
section
namespace Go.Proofs.YtngeelpfbajppaaDoorW.PrintWords
open Go.RowKit
end Go.Proofs.YtngeelpfbajppaaDoorW.PrintWords
namespace Go.Proofs.YtngeelpfbajppaaDoorW.PrintLast
section
variable {ops : Array Oper} {a : Act} {o og : Oper} {g : Nat} {t : Tmp} {u : Bool}
end
end Go.Proofs.YtngeelpfbajppaaDoorW.PrintLast
end
section
namespace Go.Proofs.YtngeelpfbajppaaDoorW.PrintWords
open Go.RowKit
section
variable {P : Program} {ops : Array Oper} {rest : List Oper} {o : Oper} {a : Act} {Q : Exit → Act → World → Prop} {W : World}
theorem gate_guard (hw : Region.wanted o (yielded ops a.tmps) = true) (h : wpList P ops Q ({ o with guard := none } :: rest) a W) : wpList P ops Q (o :: rest) a W := by
  have h1 : Region.wanted { o with guard := none } (yielded ops a.tmps) = true := rfl
  unfold wpList at h ⊢
  rw [if_pos h1] at h
  rw [if_pos hw]
  exact h
end
end Go.Proofs.YtngeelpfbajppaaDoorW.PrintWords
end
section
namespace Go.Proofs.YtngeelpfbajppaaDoorW.PrintWords
open Go.RowKit
namespace Kd
section
variable {α : Type} {d : Kd α} {e base n cap g : Nat} {ok ok' okp : Nat → Prop} {w w1 W : World} {v v1 : Value} {xs ys : List α}
end
section
variable {P : Program} {ops : Array Oper} {rest : List Oper} {o : Oper} {a : Act} {Q : Exit → Act → World → Prop} {Kc : Act → World → Prop} {α : Type}
end
end Kd
end Go.Proofs.YtngeelpfbajppaaDoorW.PrintWords
end
section
namespace Go.Proofs.YtngeelpfbajppaaDoorW.PrintMore
open Go.RowKit Go.Proofs.YtngeelpfbajppaaDoorW.PrintWords
namespace Kd
open Go.Proofs.YtngeelpfbajppaaDoorW.PrintWords.Kd
end Kd
namespace Kd
open Go.Proofs.YtngeelpfbajppaaDoorW.PrintWords.Kd
section
variable {α : Type} {d : Kd α} {e base g N : Nat} {ok : Nat → Prop} {W w1 : World} {u v : Value} {xs : List α}
end
end Kd
theorem max2_int (k k' : IntKind) (x y : Int) : Builtin.max2 (.int k x) (.int k' y) = pure (.int k (if x < y then y else x)) := by simp only [Builtin.max2, gt_iff_lt]
theorem min2_int (k k' : IntKind) (x y : Int) : Builtin.min2 (.int k x) (.int k' y) = pure (.int k (if y < x then y else x)) := by simp only [Builtin.min2]
theorem max_two (ats : Array TypeId) (ty : TypeId) (a b : Value) : Builtin.max_ ats ty #[a, b] = (Builtin.max2 a b >>= fun s => pure s) := by simp only [Builtin.max_, List.foldlM_cons, List.foldlM_nil]
theorem min_two (ats : Array TypeId) (ty : TypeId) (a b : Value) : Builtin.min_ ats ty #[a, b] = (Builtin.min2 a b >>= fun s => pure s) := by simp only [Builtin.min_, List.foldlM_cons, List.foldlM_nil]
theorem max_three (ats : Array TypeId) (ty : TypeId) (a b c : Value) : Builtin.max_ ats ty #[a, b, c] = (Builtin.max2 a b >>= fun s => Builtin.max2 s c >>= fun s => pure s) := by simp only [Builtin.max_, List.foldlM_cons, List.foldlM_nil]
theorem min_three (ats : Array TypeId) (ty : TypeId) (a b c : Value) : Builtin.min_ ats ty #[a, b, c] = (Builtin.min2 a b >>= fun s => Builtin.min2 s c >>= fun s => pure s) := by simp only [Builtin.min_, List.foldlM_cons, List.foldlM_nil]
theorem max_four (ats : Array TypeId) (ty : TypeId) (a b c d : Value) : Builtin.max_ ats ty #[a, b, c, d] = (Builtin.max2 a b >>= fun s => Builtin.max2 s c >>= fun s => Builtin.max2 s d >>= fun s => pure s) := by simp only [Builtin.max_, List.foldlM_cons, List.foldlM_nil]
theorem min_four (ats : Array TypeId) (ty : TypeId) (a b c d : Value) : Builtin.min_ ats ty #[a, b, c, d] = (Builtin.min2 a b >>= fun s => Builtin.min2 s c >>= fun s => Builtin.min2 s d >>= fun s => pure s) := by simp only [Builtin.min_, List.foldlM_cons, List.foldlM_nil]
end Go.Proofs.YtngeelpfbajppaaDoorW.PrintMore
namespace Go.Proofs.YtngeelpfbajppaaDoorW.PrintWords
open Go.RowKit
section
variable {P : Program} {ops : Array Oper} {rest : List Oper} {o : Oper} {a : Act} {Q : Exit → Act → World → Prop} {W : World}
theorem gate_callee {f : FuncId} {as_ : Array Operand} {ts : Array TypeId} (_ho : o.op = .call { callee := .value (.func f), args := as_, argTypes := ts }) (h : wpList P ops Q (o :: rest) a W) : wpList P ops Q (o :: rest) a W := h
theorem gate_builtin {b : Builtin} {xs : Array Operand} {ts : Array TypeId} (_ho : o.op = .call { callee := .builtin b, args := xs, argTypes := ts }) (h : wpList P ops Q (o :: rest) a W) : wpList P ops Q (o :: rest) a W := h
end
namespace Kd
section
variable {α : Type} {d : Kd α} {e base : Nat} {ok : Nat → Prop} {W w1 : World} {v : Value} {xs : List α}
end
section
variable {α : Type} {d : Kd α} {e base g n cap : Nat} {ok oki okp : Nat → Prop} {W : World} {xs : List α} {i : Int} {c : List Value}
end
section
variable {α : Type} {d : Kd α} {e base b b' g N : Nat} {ok ok1 : Nat → Prop} {W W2 w1 : World} {u v : Value} {xs ys : List α} {S : Nat → Prop}
end
end Kd
end Go.Proofs.YtngeelpfbajppaaDoorW.PrintWords
namespace Go.Proofs.YtngeelpfbajppaaDoorW.PrintWords
open Go.RowKit
namespace Kd
def V {α : Type} (d : Kd α) (_e : Nat) (W : World) (_base : Nat) (ok : Nat → Prop) (v : Value) (xs : List α) : Prop := ∃ A c, v = .slice A xs.length c ∧ xs.length ≤ c ∧ F d W ok A xs.length xs
section
variable {α β : Type} {d : Kd α} {e base base' n m c g N' lo hi : Nat} {ok ok' S : Nat → Prop} {w W w1 : World} {A : Option Addr} {ad : Addr} {u v v1 : Value} {xs : List α}
theorem V_nil (d : Kd α) (e : Nat) (W : World) (base : Nat) (ok : Nat → Prop) : V d e W base ok (.slice none 0 0) [] := ⟨none, 0, rfl, Nat.le_refl _, F_nil d W ok⟩
end
end Kd
end Go.Proofs.YtngeelpfbajppaaDoorW.PrintWords
end
section
namespace Go.Proofs.YtngeelpfbajppaaDoor.PD
open Go.RowKit Go.Proofs.YtngeelpfbajppaaDoorW.PrintWords Go.Proofs.YtngeelpfbajppaaDoorW.PrintLast Go.Proofs.YtngeelpfbajppaaDoorW.PrintMore
attribute [local go_sem] max2_int min2_int max_two min_two max_three min_three max_four min_four
attribute [local go_sem high] Go.Proofs.YtngeelpfbajppaaDoor.Bs.gtr_bl Go.Proofs.YtngeelpfbajppaaDoor.Bs.leq_bl Go.Proofs.YtngeelpfbajppaaDoor.Bs.cell_set2
set_option linter.unusedVariables false
set_option linter.unusedSimpArgs false
def errW : Option Int → Value
  | none => .nilIface
  | some c => .iface 0 (.int .i64 c)
theorem errW_none : errW none = .nilIface := rfl
theorem errW_some (c : Int) : errW (some c) = .iface 0 (.int .i64 c) := rfl
theorem info9 : (Tryd.prog.info? 9).map (fun i => (i.zero, i.size, i.bytes)) = some (some (.string ⟨#[]⟩), 1, 16) := by kernel_rfl
theorem info35 : (Tryd.prog.info? 35).map (fun i => (i.zero, i.size, i.bytes)) = some (some (.agg #[(.int .i64 0), (.string ⟨#[]⟩), (.int .i64 0)]), 3, 32) := by kernel_rfl
structure S35 where
  f0 : Int
  f1 : ByteArray
  f2 : Int
def z35 : S35 := ⟨(0 : Int), (⟨#[]⟩ : ByteArray), (0 : Int)⟩
def k35 : Kd S35 := Kd.iso (Kd.pair (Kd.int .i64) (Kd.pair Kd.string (Kd.int .i64))) (fun x : S35 => (x.f0, x.f1, x.f2))
theorem k35_open {w : World} {x : S35} {cs : List Value} (h : k35.K w x cs) : cs = [.int .i64 x.f0, .string x.f1, .int .i64 x.f2] := by
  obtain ⟨_, _, rfl, rfl, ⟨_, _, rfl, rfl, rfl⟩⟩ := h
  exact rfl
theorem k35_mkM (w : World) (base : Nat) (ok : Nat → Prop) (x : S35)  : k35.M w base ok x [.int .i64 x.f0, .string x.f1, .int .i64 x.f2] := ⟨[.int .i64 x.f0], [.string x.f1, .int .i64 x.f2], rfl, rfl, ⟨[.string x.f1], [.int .i64 x.f2], rfl, rfl, rfl⟩⟩
def rd_T35 (xs : List S35) (i : Int) : S35 := xs.getD i.toNat z35
theorem at_T35 {w : World} {A : Option Addr} {n : Nat} {xs : List S35} (h : Kd.C k35 w A n xs) (i : Int) (h0 : 0 ≤ i) (h1 : i < n) : ∃ ad , A = some ad ∧ w.cell? (ad.add (i.toNat * 3)) = some (.int .i64 (rd_T35 xs i).f0) ∧ w.cell? ⟨(ad.add (i.toNat * 3)).block, (ad.add (i.toNat * 3)).off + 1, none⟩ = some (.string (rd_T35 xs i).f1) ∧ w.cell? ⟨(ad.add (i.toNat * 3)).block, (ad.add (i.toNat * 3)).off + 2, none⟩ = some (.int .i64 (rd_T35 xs i).f2) := by
  obtain ⟨ad, c, e, _, hK, hc0⟩ := Kd.C_get h z35 i h0 h1
  have hc : ∀ j u, c[j]? = some u → w.cell? (ad.add (i.toNat * 3 + j)) = some u := hc0
  obtain rfl := k35_open hK
  exact ⟨ad, e, hc 0 _ rfl, by rw [← add_field _ _ 1 (by omega)]; exact hc 1 _ rfl, by rw [← add_field _ _ 2 (by omega)]; exact hc 2 _ rfl⟩
end Go.Proofs.YtngeelpfbajppaaDoor.PD
end
section
namespace Go.Proofs.YtngeelpfbajppaaDoor.PD
open Go.RowKit Go.Proofs.YtngeelpfbajppaaDoorW.PrintWords Go.Proofs.YtngeelpfbajppaaDoorW.PrintLast Go.Proofs.YtngeelpfbajppaaDoorW.PrintMore
attribute [local go_sem] max2_int min2_int max_two min_two max_three min_three max_four min_four
attribute [local go_sem high] Go.Proofs.YtngeelpfbajppaaDoor.Bs.gtr_bl Go.Proofs.YtngeelpfbajppaaDoor.Bs.leq_bl Go.Proofs.YtngeelpfbajppaaDoor.Bs.cell_set2
set_option linter.unusedVariables false
set_option linter.unusedSimpArgs false
theorem eqA35 (d : Nat) (w : World) (x0 y0 : Int) (x1 y1 : ByteArray) (x2 y2 : Int) :
    (Op.equalIn (d + 2) 35 (.agg #[.int .i64 x0, .string x1, .int .i64 x2]) (.agg #[.int .i64 y0, .string y1, .int .i64 y2])).run Tryd.prog w = .ok (x0 == y0 && (x1.toList == y1.toList && (x2 == y2))) w := by
  refine eqA_of Tryd.underlying35 (by kernel_rfl) ?_
  refine eqf_cons (by rfl) (by go_simp; rfl) (by go_simp; rfl) (by go_simp) ?_
  refine eqf_cons (by rfl) (by go_simp; rfl) (by go_simp; rfl) (by go_simp) ?_
  exact eqf_last (by rfl) (by go_simp; rfl) (by go_simp; rfl) (by go_simp)
end Go.Proofs.YtngeelpfbajppaaDoor.PD
end
section
namespace Go.Proofs
open Go.Shelf
def Tryd.lays169_ren : Go.Shelf.Ren := ⟨fun | 169 => 48 | n => n, fun | 70 => 75 | 9 => 9 | 0 => 0 | 72 => 78 | 37 => 76 | 127 => 93 | 3 => 3 | 5 => 5 | n => n, fun | n => n⟩
theorem Tryd.lays169 : Go.Proofs.Lays.n169 Tryd.prog Tryd.lays169_ren := {
  mixed := by kernel_rfl
  f169 := Tryd.func48.trans (congrArg some (by kernel_rfl))
  t0 := Tryd.underlying0
  a0 := Tryd.isAgg0
  z0 := Tryd.sizeOf0
  v0 := Tryd.zeroValue0
  t3 := Tryd.underlying3
  a3 := Tryd.isAgg3
  z3 := Tryd.sizeOf3
  v3 := Tryd.zeroValue3
  t9 := Tryd.underlying9
  a9 := Tryd.isAgg9
  z9 := Tryd.sizeOf9
  v9 := Tryd.zeroValue9
  t37 := Tryd.underlying76
  a37 := Tryd.isAgg76
  z37 := Tryd.sizeOf76
  v37 := Tryd.zeroValue76
  t70 := Tryd.underlying75
  a70 := Tryd.isAgg75
  z70 := Tryd.sizeOf75
  v70 := Tryd.zeroValue75
  t72 := Tryd.underlying78
  a72 := Tryd.isAgg78
  z72 := Tryd.sizeOf78
  v72 := Tryd.zeroValue78
  t127 := Tryd.underlying93
  a127 := Tryd.isAgg93
  z127 := Tryd.sizeOf93
  v127 := Tryd.zeroValue93 }
theorem Tryd.Builder_Extra_169 : Builder.Extra Tryd.prog Tryd.lays169_ren := {
  sizeBuilder := by kernel_rfl
  liesBuilder := by kernel_rfl
  t5 := Tryd.underlying5
  a5 := Tryd.isAgg5
  z5 := Tryd.sizeOf5
  v5 := Tryd.zeroValue5
  infoByte := by kernel_rfl
  cellsByte := by kernel_rfl
  sizeByte := by kernel_rfl
  neB5 := by decide }
def Tryd.lays156_ren : Go.Shelf.Ren := ⟨fun | 156 => 21 | 165 => 46 | 166 => 47 | 169 => 48 | 240 => 62 | 241 => 63 | 276 => 78 | 277 => 79 | n => n, fun | 31 => 48 | 9 => 9 | 3 => 3 | 4 => 4 | 0 => 0 | 20 => 20 | 72 => 78 | 76 => 82 | 70 => 75 | 37 => 76 | 75 => 81 | 127 => 93 | 164 => 108 | 5 => 5 | 80 => 84 | n => n, fun | n => n⟩
theorem Tryd.lays156 : Go.Proofs.Lays.n156 Tryd.prog Tryd.lays156_ren := {
  mixed := by kernel_rfl
  f156 := Tryd.func21.trans (congrArg some (by kernel_rfl))
  f165 := Tryd.func46.trans (congrArg some (by kernel_rfl))
  f166 := Tryd.func47.trans (congrArg some (by kernel_rfl))
  f169 := Tryd.func48.trans (congrArg some (by kernel_rfl))
  f240 := Tryd.func62.trans (congrArg some (by kernel_rfl))
  f241 := Tryd.func63.trans (congrArg some (by kernel_rfl))
  f276 := Tryd.func78.trans (congrArg some (by kernel_rfl))
  f277 := Tryd.func79.trans (congrArg some (by kernel_rfl))
  t0 := Tryd.underlying0
  a0 := Tryd.isAgg0
  z0 := Tryd.sizeOf0
  v0 := Tryd.zeroValue0
  t3 := Tryd.underlying3
  a3 := Tryd.isAgg3
  z3 := Tryd.sizeOf3
  v3 := Tryd.zeroValue3
  t4 := Tryd.underlying4
  a4 := Tryd.isAgg4
  z4 := Tryd.sizeOf4
  v4 := Tryd.zeroValue4
  t9 := Tryd.underlying9
  a9 := Tryd.isAgg9
  z9 := Tryd.sizeOf9
  v9 := Tryd.zeroValue9
  t20 := Tryd.underlying20
  a20 := Tryd.isAgg20
  z20 := Tryd.sizeOf20
  v20 := Tryd.zeroValue20
  t31 := Tryd.underlying48
  a31 := Tryd.isAgg48
  z31 := Tryd.sizeOf48
  v31 := Tryd.zeroValue48
  t37 := Tryd.underlying76
  a37 := Tryd.isAgg76
  z37 := Tryd.sizeOf76
  v37 := Tryd.zeroValue76
  t70 := Tryd.underlying75
  a70 := Tryd.isAgg75
  z70 := Tryd.sizeOf75
  v70 := Tryd.zeroValue75
  t72 := Tryd.underlying78
  a72 := Tryd.isAgg78
  z72 := Tryd.sizeOf78
  v72 := Tryd.zeroValue78
  t75 := Tryd.underlying81
  a75 := Tryd.isAgg81
  z75 := Tryd.sizeOf81
  v75 := Tryd.zeroValue81
  t76 := Tryd.underlying82
  a76 := Tryd.isAgg82
  z76 := Tryd.sizeOf82
  v76 := Tryd.zeroValue82
  t127 := Tryd.underlying93
  a127 := Tryd.isAgg93
  z127 := Tryd.sizeOf93
  v127 := Tryd.zeroValue93
  t164 := Tryd.underlying108
  a164 := Tryd.isAgg108
  z164 := Tryd.sizeOf108
  v164 := Tryd.zeroValue108 }
theorem Tryd.Builder_Extra_156 : Builder.Extra Tryd.prog Tryd.lays156_ren := {
  sizeBuilder := by kernel_rfl
  liesBuilder := by kernel_rfl
  t5 := Tryd.underlying5
  a5 := Tryd.isAgg5
  z5 := Tryd.sizeOf5
  v5 := Tryd.zeroValue5
  infoByte := by kernel_rfl
  cellsByte := by kernel_rfl
  sizeByte := by kernel_rfl
  neB5 := by decide }
open Go.RowKit in
theorem Tryd.strings_Join_none (a : Option Addr) (c : Nat) (sep : ByteArray) (w : World) :
    Calls Tryd.prog 21 #[.slice a 0 c, .string sep] w fun e w' => e = .returned (.string ⟨#[]⟩) ∧ w' = w := Any.strings_Join_none Tryd.lays156 Tryd.Builder_Extra_156 a c sep w
open Go.RowKit in
theorem Tryd.strings_Join (bk o c : Nat) (xs : List ByteArray) (sep : ByteArray) (w : World) (hcells : ∀ (j : Nat) x, xs[j]? = some x → w.cell? ⟨bk, o + j, none⟩ = some (.string x)) (hbk : bk < w.heap.size) (hN : xs.length ≤ 140737488355328) (hcap : xs.length ≤ c) (hlen : (Lib.join (xs.map (·.data.toList)) sep.data.toList).length ≤ 140737488355328) :
    Calls Tryd.prog 21 #[.slice (some ⟨bk, o, none⟩) xs.length c, .string sep] w fun e w' => e = .returned (.string ⟨(Lib.join (xs.map (·.data.toList)) sep.data.toList).toArray⟩) ∧ Below w.heap.size w w' := Any.strings_Join Tryd.lays156 Tryd.Builder_Extra_156 bk o c xs sep w hcells hbk hN hcap hlen
def Tryd.lays161_ren : Go.Shelf.Ren := ⟨fun | 161 => 16 | 231 => 23 | 227 => 24 | 233 => 25 | 235 => 26 | 228 => 51 | 197 => 52 | 151 => 30 | 260 => 64 | 152 => 55 | 137 => 66 | 119 => 67 | 224 => 68 | 225 => 69 | 217 => 80 | 266 => 89 | n => n, fun | 9 => 9 | 4 => 4 | 3 => 3 | 5 => 5 | 117 => 57 | 116 => 56 | 0 => 0 | 124 => 60 | 105 => 86 | 21 => 21 | 119 => 111 | 46 => 97 | 139 => 114 | 138 => 113 | n => n, fun | 3 => 0 | 4 => 1 | n => n⟩
theorem Tryd.lays161 : Go.Proofs.Lays.n161 Tryd.prog Tryd.lays161_ren := {
  mixed := by kernel_rfl
  f119 := Tryd.func67.trans (congrArg some (by kernel_rfl))
  f137 := Tryd.func66.trans (congrArg some (by kernel_rfl))
  f151 := Tryd.func30.trans (congrArg some (by kernel_rfl))
  f152 := Tryd.func55.trans (congrArg some (by kernel_rfl))
  f161 := Tryd.func16.trans (congrArg some (by kernel_rfl))
  f197 := Tryd.func52.trans (congrArg some (by kernel_rfl))
  f217 := Tryd.func80.trans (congrArg some (by kernel_rfl))
  f224 := Tryd.func68.trans (congrArg some (by kernel_rfl))
  f225 := Tryd.func69.trans (congrArg some (by kernel_rfl))
  f227 := Tryd.func24.trans (congrArg some (by kernel_rfl))
  f228 := Tryd.func51.trans (congrArg some (by kernel_rfl))
  f231 := Tryd.func23.trans (congrArg some (by kernel_rfl))
  f233 := Tryd.func25.trans (congrArg some (by kernel_rfl))
  f235 := Tryd.func26.trans (congrArg some (by kernel_rfl))
  f260 := Tryd.func64.trans (congrArg some (by kernel_rfl))
  f266 := Tryd.func89.trans (congrArg some (by kernel_rfl))
  t0 := Tryd.underlying0
  a0 := Tryd.isAgg0
  z0 := Tryd.sizeOf0
  v0 := Tryd.zeroValue0
  t3 := Tryd.underlying3
  a3 := Tryd.isAgg3
  z3 := Tryd.sizeOf3
  v3 := Tryd.zeroValue3
  t4 := Tryd.underlying4
  a4 := Tryd.isAgg4
  z4 := Tryd.sizeOf4
  v4 := Tryd.zeroValue4
  t5 := Tryd.underlying5
  a5 := Tryd.isAgg5
  z5 := Tryd.sizeOf5
  v5 := Tryd.zeroValue5
  t9 := Tryd.underlying9
  a9 := Tryd.isAgg9
  z9 := Tryd.sizeOf9
  v9 := Tryd.zeroValue9
  t21 := Tryd.underlying21
  a21 := Tryd.isAgg21
  z21 := Tryd.sizeOf21
  v21 := Tryd.zeroValue21
  t46 := Tryd.underlying97
  a46 := Tryd.isAgg97
  z46 := Tryd.sizeOf97
  v46 := Tryd.zeroValue97
  t105 := Tryd.underlying86
  a105 := Tryd.isAgg86
  z105 := Tryd.sizeOf86
  v105 := Tryd.zeroValue86
  t116 := Tryd.underlying56
  a116 := Tryd.isAgg56
  z116 := Tryd.sizeOf56
  t117 := Tryd.underlying57
  a117 := Tryd.isAgg57
  z117 := Tryd.sizeOf57
  v117 := Tryd.zeroValue57
  t119 := Tryd.underlying111
  a119 := Tryd.isAgg111
  z119 := Tryd.sizeOf111
  t124 := Tryd.underlying60
  a124 := Tryd.isAgg60
  z124 := Tryd.sizeOf60
  v124 := Tryd.zeroValue60
  t138 := Tryd.underlying113
  a138 := Tryd.isAgg113
  z138 := Tryd.sizeOf113
  v138 := Tryd.zeroValue113
  t139 := Tryd.underlying114
  a139 := Tryd.isAgg114
  z139 := Tryd.sizeOf114
  v139 := Tryd.zeroValue114
  g3 := by kernel_rfl
  g4 := by kernel_rfl }
def Tryd.lays119_ren : Go.Shelf.Ren := ⟨fun | 119 => 67 | n => n, fun | 21 => 21 | 4 => 4 | n => n, fun | n => n⟩
theorem Tryd.lays119 : Go.Proofs.Lays.n119 Tryd.prog Tryd.lays119_ren := {
  mixed := by kernel_rfl
  f119 := Tryd.func67.trans (congrArg some (by kernel_rfl))
  t4 := Tryd.underlying4
  a4 := Tryd.isAgg4
  z4 := Tryd.sizeOf4
  v4 := Tryd.zeroValue4
  t21 := Tryd.underlying21
  a21 := Tryd.isAgg21
  z21 := Tryd.sizeOf21
  v21 := Tryd.zeroValue21 }
theorem Tryd.utf8_ValidRune (r : Int) (w : World) :
    Calls Tryd.prog 67 #[.int .i32 r] w fun e w' => e = .returned (.bool (Lib.validRune r)) ∧ w' = w := Any.utf8_ValidRune Tryd.lays119 r w
def Tryd.lays137_ren : Go.Shelf.Ren := ⟨fun | 137 => 66 | 217 => 80 | 266 => 89 | n => n, fun | 9 => 9 | 5 => 5 | 3 => 3 | n => n, fun | n => n⟩
theorem Tryd.lays137 : Go.Proofs.Lays.n137 Tryd.prog Tryd.lays137_ren := {
  mixed := by kernel_rfl
  f137 := Tryd.func66.trans (congrArg some (by kernel_rfl))
  f217 := Tryd.func80.trans (congrArg some (by kernel_rfl))
  f266 := Tryd.func89.trans (congrArg some (by kernel_rfl))
  t3 := Tryd.underlying3
  a3 := Tryd.isAgg3
  z3 := Tryd.sizeOf3
  v3 := Tryd.zeroValue3
  t5 := Tryd.underlying5
  a5 := Tryd.isAgg5
  z5 := Tryd.sizeOf5
  v5 := Tryd.zeroValue5
  t9 := Tryd.underlying9
  a9 := Tryd.isAgg9
  z9 := Tryd.sizeOf9
  v9 := Tryd.zeroValue9 }
open Go.RowKit in
theorem Tryd.strings_IndexByte (s : ByteArray) (c : Int) (w : World) :
    Calls Tryd.prog 66 #[.string s, .int .u8 c] w fun e w' => e = .returned (.int .i64 (Lib.indexByte s.data.toList c.toNat.toUInt8)) ∧ w' = w := Any.strings_IndexByte Tryd.lays137 s c w
open Go.RowKit in
theorem Tryd.Builder_String_any_f (B b : Nat) (l : List UInt8) (w : World) (h : Lib.IsBuilderF 78 5 B b (Lib.byteCells l) w) (hBw : B ≤ w.heap.size) :
    Calls Tryd.prog 48 #[.pointer (some ⟨b, 0, none⟩)] w fun e w' => e = .returned (.string ⟨l.toArray⟩) ∧ (Lib.IsBuilderF 78 5 B b (Lib.byteCells l) w' ∧ Below B w w') := Any.Builder_String_any_f Tryd.lays169 Tryd.Builder_Extra_169 B b l w h hBw
def Tryd.laysM173_ren : Go.Shelf.Ren := ⟨fun | 173 => 45 | 246 => 61 | 283 => 74 | 284 => 75 | 285 => 76 | 286 => 77 | 129 => 85 | 317 => 84 | 318 => 86 | 319 => 87 | 320 => 88 | 337 => 91 | 338 => 92 | n => n, fun | 2 => 2 | 3 => 3 | 9 => 9 | 4 => 4 | 171 => 102 | 0 => 0 | 53 => 103 | 37 => 76 | 5 => 5 | 173 => 106 | 212 => 117 | 51 => 118 | 20 => 20 | 213 => 119 | 46 => 97 | 232 => 125 | 233 => 126 | n => n, fun | 17 => 3 | 18 => 4 | 19 => 5 | n => n⟩
theorem Tryd.laysM173 : Go.Proofs.LaysM.n173 Tryd.prog Tryd.laysM173_ren := {
  mixed := by kernel_rfl
  f129 := Tryd.func85.trans (congrArg some (by kernel_rfl))
  f173 := Tryd.func45.trans (congrArg some (by kernel_rfl))
  f246 := Tryd.func61.trans (congrArg some (by kernel_rfl))
  f283 := Tryd.func74.trans (congrArg some (by kernel_rfl))
  f284 := Tryd.func75.trans (congrArg some (by kernel_rfl))
  f285 := Tryd.func76.trans (congrArg some (by kernel_rfl))
  f286 := Tryd.func77.trans (congrArg some (by kernel_rfl))
  f317 := Tryd.func84.trans (congrArg some (by kernel_rfl))
  f318 := Tryd.func86.trans (congrArg some (by kernel_rfl))
  f319 := Tryd.func87.trans (congrArg some (by kernel_rfl))
  f320 := Tryd.func88.trans (congrArg some (by kernel_rfl))
  f337 := Tryd.func91.trans (congrArg some (by kernel_rfl))
  f338 := Tryd.func92.trans (congrArg some (by kernel_rfl))
  t0 := Tryd.underlying0
  a0 := Tryd.isAgg0
  z0 := Tryd.sizeOf0
  v0 := Tryd.zeroValue0
  t2 := Tryd.underlying2
  a2 := Tryd.isAgg2
  z2 := Tryd.sizeOf2
  v2 := Tryd.zeroValue2
  t3 := Tryd.underlying3
  a3 := Tryd.isAgg3
  z3 := Tryd.sizeOf3
  v3 := Tryd.zeroValue3
  t4 := Tryd.underlying4
  a4 := Tryd.isAgg4
  z4 := Tryd.sizeOf4
  v4 := Tryd.zeroValue4
  t5 := Tryd.underlying5
  a5 := Tryd.isAgg5
  z5 := Tryd.sizeOf5
  v5 := Tryd.zeroValue5
  t9 := Tryd.underlying9
  a9 := Tryd.isAgg9
  z9 := Tryd.sizeOf9
  v9 := Tryd.zeroValue9
  t20 := Tryd.underlying20
  a20 := Tryd.isAgg20
  z20 := Tryd.sizeOf20
  v20 := Tryd.zeroValue20
  t37 := Tryd.underlying76
  a37 := Tryd.isAgg76
  z37 := Tryd.sizeOf76
  v37 := Tryd.zeroValue76
  t46 := Tryd.underlying97
  a46 := Tryd.isAgg97
  z46 := Tryd.sizeOf97
  v46 := Tryd.zeroValue97
  t51 := Tryd.underlying118
  a51 := Tryd.isAgg118
  z51 := Tryd.sizeOf118
  v51 := Tryd.zeroValue118
  t53 := Tryd.underlying103
  a53 := Tryd.isAgg103
  z53 := Tryd.sizeOf103
  v53 := Tryd.zeroValue103
  t171 := Tryd.underlying102
  a171 := Tryd.isAgg102
  z171 := Tryd.sizeOf102
  v171 := Tryd.zeroValue102
  t173 := Tryd.underlying106
  a173 := Tryd.isAgg106
  z173 := Tryd.sizeOf106
  v173 := Tryd.zeroValue106
  t212 := Tryd.underlying117
  a212 := Tryd.isAgg117
  z212 := Tryd.sizeOf117
  v212 := Tryd.zeroValue117
  t213 := Tryd.underlying119
  a213 := Tryd.isAgg119
  z213 := Tryd.sizeOf119
  t232 := Tryd.underlying125
  a232 := Tryd.isAgg125
  z232 := Tryd.sizeOf125
  v232 := Tryd.zeroValue125
  t233 := Tryd.underlying126
  a233 := Tryd.isAgg126
  z233 := Tryd.sizeOf126
  v233 := Tryd.zeroValue126
  g17 := by kernel_rfl
  g18 := by kernel_rfl
  g19 := by kernel_rfl
  i0 := by kernel_rfl
  i2 := by kernel_rfl
  i3 := by kernel_rfl
  i4 := by kernel_rfl
  i5 := by kernel_rfl
  i9 := by kernel_rfl
  i20 := by kernel_rfl
  i37 := by kernel_rfl
  i46 := by kernel_rfl
  i51 := by kernel_rfl
  i53 := by kernel_rfl
  i171 := by kernel_rfl
  i173 := by kernel_rfl
  i212 := by kernel_rfl
  i232 := by kernel_rfl
  i233 := by kernel_rfl
  m17 := by kernel_rfl
  m18 := by kernel_rfl
  m19 := by kernel_rfl }
open Go.RowKit Go.Sort Go.Lib in
theorem Tryd.strconv_FormatInt_10 (n : Int) (h0 : -9223372036854775808 ≤ n) (h1 : n ≤ 9223372036854775807) (w : World) (htab : Lib.TabIs Tryd.prog w "internal/strconv.uint64pow10" .u64 Lib.pow10Tab) :
    Calls Tryd.prog 45 #[.int .i64 n, .int .i64 10] w fun e w' => e = .returned (.string ⟨(Lib.itoa n).toArray⟩) ∧ ∃ k os, w' = grow (w.drewN k) os := Any.strconv_FormatInt_10 Tryd.laysM173 n h0 h1 w htab
def Tryd.lays145_ren : Go.Shelf.Ren := ⟨fun | 145 => 57 | 220 => 70 | 219 => 81 | 217 => 80 | 225 => 69 | 224 => 68 | 267 => 90 | 266 => 89 | 314 => 93 | n => n, fun | 9 => 9 | 4 => 4 | 59 => 89 | 3 => 3 | 5 => 5 | 46 => 97 | 146 => 123 | 51 => 118 | n => n, fun | 1 => 2 | n => n⟩
theorem Tryd.lays145 : Go.Proofs.Lays.n145 Tryd.prog Tryd.lays145_ren := {
  mixed := by kernel_rfl
  f145 := Tryd.func57.trans (congrArg some (by kernel_rfl))
  f217 := Tryd.func80.trans (congrArg some (by kernel_rfl))
  f219 := Tryd.func81.trans (congrArg some (by kernel_rfl))
  f220 := Tryd.func70.trans (congrArg some (by kernel_rfl))
  f224 := Tryd.func68.trans (congrArg some (by kernel_rfl))
  f225 := Tryd.func69.trans (congrArg some (by kernel_rfl))
  f266 := Tryd.func89.trans (congrArg some (by kernel_rfl))
  f267 := Tryd.func90.trans (congrArg some (by kernel_rfl))
  f314 := Tryd.func93.trans (congrArg some (by kernel_rfl))
  t3 := Tryd.underlying3
  a3 := Tryd.isAgg3
  z3 := Tryd.sizeOf3
  v3 := Tryd.zeroValue3
  t4 := Tryd.underlying4
  a4 := Tryd.isAgg4
  z4 := Tryd.sizeOf4
  v4 := Tryd.zeroValue4
  t5 := Tryd.underlying5
  a5 := Tryd.isAgg5
  z5 := Tryd.sizeOf5
  v5 := Tryd.zeroValue5
  t9 := Tryd.underlying9
  a9 := Tryd.isAgg9
  z9 := Tryd.sizeOf9
  v9 := Tryd.zeroValue9
  t46 := Tryd.underlying97
  a46 := Tryd.isAgg97
  z46 := Tryd.sizeOf97
  v46 := Tryd.zeroValue97
  t51 := Tryd.underlying118
  a51 := Tryd.isAgg118
  z51 := Tryd.sizeOf118
  v51 := Tryd.zeroValue118
  t59 := Tryd.underlying89
  a59 := Tryd.isAgg89
  z59 := Tryd.sizeOf89
  v59 := Tryd.zeroValue89
  t146 := Tryd.underlying123
  a146 := Tryd.isAgg123
  z146 := Tryd.sizeOf123
  v146 := Tryd.zeroValue123
  g1 := by kernel_rfl }
open Go.RowKit Go.Lib in
theorem Tryd.strings_Cut (s sep : ByteArray) (m : Int) (w : World) (hs : s.size < 4294967281) (hm : w.cell? ⟨2, 0, none⟩ = some (.int .i64 m)) :
    Calls Tryd.prog 57 #[.string s, .string sep] w fun e w' => e = .returned (.tuple #[.string ⟨(Lib.cut s.data.toList sep.data.toList).1.toArray⟩, .string ⟨(Lib.cut s.data.toList sep.data.toList).2.1.toArray⟩, .bool (Lib.cut s.data.toList sep.data.toList).2.2]) ∧ ∃ n, w' = w.drewN n := Any.strings_Cut Tryd.lays145 s sep m w hs hm
def Tryd.laysGw15_ren : Go.Shelf.Ren := ⟨fun | 15 => 53 | 20 => 65 | n => n, fun | 9 => 9 | 23 => 61 | 3 => 3 | 4 => 4 | 0 => 0 | 21 => 21 | n => n, fun | n => n⟩
theorem Tryd.laysGw15 : Go.Proofs.LaysGw.n15 Tryd.prog Tryd.laysGw15_ren := {
  mixed := by kernel_rfl
  f15 := Tryd.func53.trans (congrArg some (by kernel_rfl))
  f20 := Tryd.func65.trans (congrArg some (by kernel_rfl))
  t0 := Tryd.underlying0
  a0 := Tryd.isAgg0
  z0 := Tryd.sizeOf0
  v0 := Tryd.zeroValue0
  i0 := by kernel_rfl
  t3 := Tryd.underlying3
  a3 := Tryd.isAgg3
  z3 := Tryd.sizeOf3
  v3 := Tryd.zeroValue3
  i3 := by kernel_rfl
  t4 := Tryd.underlying4
  a4 := Tryd.isAgg4
  z4 := Tryd.sizeOf4
  v4 := Tryd.zeroValue4
  i4 := by kernel_rfl
  t9 := Tryd.underlying9
  a9 := Tryd.isAgg9
  z9 := Tryd.sizeOf9
  v9 := Tryd.zeroValue9
  i9 := by kernel_rfl
  t21 := Tryd.underlying21
  a21 := Tryd.isAgg21
  z21 := Tryd.sizeOf21
  v21 := Tryd.zeroValue21
  i21 := by kernel_rfl
  t23 := Tryd.underlying61
  a23 := Tryd.isAgg61
  z23 := Tryd.sizeOf61
  v23 := Tryd.zeroValue61
  i23 := by kernel_rfl }
def Tryd.lays99_ren : Go.Shelf.Ren := ⟨fun | 99 => 32 | 206 => 56 | n => n, fun | 9 => 9 | 4 => 4 | 3 => 3 | n => n, fun | n => n⟩
theorem Tryd.lays99 : Go.Proofs.Lays.n99 Tryd.prog Tryd.lays99_ren := {
  mixed := by kernel_rfl
  f99 := Tryd.func32.trans (congrArg some (by kernel_rfl))
  f206 := Tryd.func56.trans (congrArg some (by kernel_rfl))
  t3 := Tryd.underlying3
  a3 := Tryd.isAgg3
  z3 := Tryd.sizeOf3
  v3 := Tryd.zeroValue3
  t4 := Tryd.underlying4
  a4 := Tryd.isAgg4
  z4 := Tryd.sizeOf4
  v4 := Tryd.zeroValue4
  t9 := Tryd.underlying9
  a9 := Tryd.isAgg9
  z9 := Tryd.sizeOf9
  v9 := Tryd.zeroValue9 }
open Go.RowKit Go.Lib in
theorem Tryd.strings_HasPrefix (s p : ByteArray) (w : World) :
    Calls Tryd.prog 32 #[.string s, .string p] w fun e w' => e = .returned (.bool (Lib.hasPrefix s.data.toList p.data.toList)) ∧ w' = w := Any.strings_HasPrefix Tryd.lays99 s p w
def Tryd.lays155_ren : Go.Shelf.Ren := ⟨fun | 155 => 44 | 154 => 60 | 138 => 72 | 165 => 46 | 143 => 73 | 166 => 47 | 197 => 52 | 169 => 48 | 195 => 82 | 218 => 83 | 240 => 62 | 241 => 63 | 219 => 81 | 260 => 64 | 276 => 78 | 277 => 79 | 217 => 80 | 225 => 69 | 224 => 68 | 267 => 90 | 266 => 89 | 314 => 93 | n => n, fun | 9 => 9 | 3 => 3 | 4 => 4 | 72 => 78 | 0 => 0 | 76 => 82 | 105 => 86 | 21 => 21 | 5 => 5 | 70 => 75 | 20 => 20 | 37 => 76 | 75 => 81 | 127 => 93 | 164 => 108 | 46 => 97 | 119 => 111 | 139 => 114 | 138 => 113 | 146 => 123 | 51 => 118 | 80 => 84 | n => n, fun | 1 => 2 | 3 => 0 | 4 => 1 | n => n⟩
theorem Tryd.lays155 : Go.Proofs.Lays.n155 Tryd.prog Tryd.lays155_ren := {
  mixed := by kernel_rfl
  f138 := Tryd.func72.trans (congrArg some (by kernel_rfl))
  f143 := Tryd.func73.trans (congrArg some (by kernel_rfl))
  f154 := Tryd.func60.trans (congrArg some (by kernel_rfl))
  f155 := Tryd.func44.trans (congrArg some (by kernel_rfl))
  f165 := Tryd.func46.trans (congrArg some (by kernel_rfl))
  f166 := Tryd.func47.trans (congrArg some (by kernel_rfl))
  f169 := Tryd.func48.trans (congrArg some (by kernel_rfl))
  f195 := Tryd.func82.trans (congrArg some (by kernel_rfl))
  f197 := Tryd.func52.trans (congrArg some (by kernel_rfl))
  f217 := Tryd.func80.trans (congrArg some (by kernel_rfl))
  f218 := Tryd.func83.trans (congrArg some (by kernel_rfl))
  f219 := Tryd.func81.trans (congrArg some (by kernel_rfl))
  f224 := Tryd.func68.trans (congrArg some (by kernel_rfl))
  f225 := Tryd.func69.trans (congrArg some (by kernel_rfl))
  f240 := Tryd.func62.trans (congrArg some (by kernel_rfl))
  f241 := Tryd.func63.trans (congrArg some (by kernel_rfl))
  f260 := Tryd.func64.trans (congrArg some (by kernel_rfl))
  f266 := Tryd.func89.trans (congrArg some (by kernel_rfl))
  f267 := Tryd.func90.trans (congrArg some (by kernel_rfl))
  f276 := Tryd.func78.trans (congrArg some (by kernel_rfl))
  f277 := Tryd.func79.trans (congrArg some (by kernel_rfl))
  f314 := Tryd.func93.trans (congrArg some (by kernel_rfl))
  t0 := Tryd.underlying0
  a0 := Tryd.isAgg0
  z0 := Tryd.sizeOf0
  v0 := Tryd.zeroValue0
  t3 := Tryd.underlying3
  a3 := Tryd.isAgg3
  z3 := Tryd.sizeOf3
  v3 := Tryd.zeroValue3
  t4 := Tryd.underlying4
  a4 := Tryd.isAgg4
  z4 := Tryd.sizeOf4
  v4 := Tryd.zeroValue4
  t5 := Tryd.underlying5
  a5 := Tryd.isAgg5
  z5 := Tryd.sizeOf5
  v5 := Tryd.zeroValue5
  t9 := Tryd.underlying9
  a9 := Tryd.isAgg9
  z9 := Tryd.sizeOf9
  v9 := Tryd.zeroValue9
  t20 := Tryd.underlying20
  a20 := Tryd.isAgg20
  z20 := Tryd.sizeOf20
  v20 := Tryd.zeroValue20
  t21 := Tryd.underlying21
  a21 := Tryd.isAgg21
  z21 := Tryd.sizeOf21
  v21 := Tryd.zeroValue21
  t37 := Tryd.underlying76
  a37 := Tryd.isAgg76
  z37 := Tryd.sizeOf76
  v37 := Tryd.zeroValue76
  t46 := Tryd.underlying97
  a46 := Tryd.isAgg97
  z46 := Tryd.sizeOf97
  v46 := Tryd.zeroValue97
  t51 := Tryd.underlying118
  a51 := Tryd.isAgg118
  z51 := Tryd.sizeOf118
  v51 := Tryd.zeroValue118
  t70 := Tryd.underlying75
  a70 := Tryd.isAgg75
  z70 := Tryd.sizeOf75
  v70 := Tryd.zeroValue75
  t72 := Tryd.underlying78
  a72 := Tryd.isAgg78
  z72 := Tryd.sizeOf78
  v72 := Tryd.zeroValue78
  t75 := Tryd.underlying81
  a75 := Tryd.isAgg81
  z75 := Tryd.sizeOf81
  v75 := Tryd.zeroValue81
  t76 := Tryd.underlying82
  a76 := Tryd.isAgg82
  z76 := Tryd.sizeOf82
  v76 := Tryd.zeroValue82
  t105 := Tryd.underlying86
  a105 := Tryd.isAgg86
  z105 := Tryd.sizeOf86
  v105 := Tryd.zeroValue86
  t119 := Tryd.underlying111
  a119 := Tryd.isAgg111
  z119 := Tryd.sizeOf111
  t127 := Tryd.underlying93
  a127 := Tryd.isAgg93
  z127 := Tryd.sizeOf93
  v127 := Tryd.zeroValue93
  t138 := Tryd.underlying113
  a138 := Tryd.isAgg113
  z138 := Tryd.sizeOf113
  v138 := Tryd.zeroValue113
  t139 := Tryd.underlying114
  a139 := Tryd.isAgg114
  z139 := Tryd.sizeOf114
  v139 := Tryd.zeroValue114
  t146 := Tryd.underlying123
  a146 := Tryd.isAgg123
  z146 := Tryd.sizeOf123
  v146 := Tryd.zeroValue123
  t164 := Tryd.underlying108
  a164 := Tryd.isAgg108
  z164 := Tryd.sizeOf108
  v164 := Tryd.zeroValue108
  g1 := by kernel_rfl
  g3 := by kernel_rfl
  g4 := by kernel_rfl }
theorem Tryd.Builder_Extra_155 : Builder.Extra Tryd.prog Tryd.lays155_ren := {
  sizeBuilder := by kernel_rfl
  liesBuilder := by kernel_rfl
  t5 := Tryd.underlying5
  a5 := Tryd.isAgg5
  z5 := Tryd.sizeOf5
  v5 := Tryd.zeroValue5
  infoByte := by kernel_rfl
  cellsByte := by kernel_rfl
  sizeByte := by kernel_rfl
  neB5 := by decide }
open Go.RowKit Go.Lib in
theorem Tryd.strings_ReplaceAll (s old new : ByteArray) (m : Int) (w : World) (hs : s.size < 4294967281) (hm : w.cell? ⟨2, 0, none⟩ = some (.int .i64 m)) (h1 : 1 ≤ old.size) (hlen : s.size + Lib.countB s old * new.size ≤ 140737488355328) :
    Calls Tryd.prog 44 #[.string s, .string old, .string new] w fun e w' =>
      e = .returned (.string ⟨(Lib.replaceAll s.data.toList old.data.toList new.data.toList).toArray⟩) ∧ Below w.heap.size w w' := Any.strings_ReplaceAll Tryd.lays155 Tryd.Builder_Extra_155 s old new m w hs hm h1 hlen
def Tryd.lays151_ren : Go.Shelf.Ren := ⟨fun | 151 => 30 | 152 => 55 | 137 => 66 | 119 => 67 | 224 => 68 | 225 => 69 | 217 => 80 | 266 => 89 | n => n, fun | 9 => 9 | 21 => 21 | 4 => 4 | 3 => 3 | 5 => 5 | 0 => 0 | 46 => 97 | n => n, fun | n => n⟩
theorem Tryd.lays151 : Go.Proofs.Lays.n151 Tryd.prog Tryd.lays151_ren := {
  mixed := by kernel_rfl
  f119 := Tryd.func67.trans (congrArg some (by kernel_rfl))
  f137 := Tryd.func66.trans (congrArg some (by kernel_rfl))
  f151 := Tryd.func30.trans (congrArg some (by kernel_rfl))
  f152 := Tryd.func55.trans (congrArg some (by kernel_rfl))
  f217 := Tryd.func80.trans (congrArg some (by kernel_rfl))
  f224 := Tryd.func68.trans (congrArg some (by kernel_rfl))
  f225 := Tryd.func69.trans (congrArg some (by kernel_rfl))
  f266 := Tryd.func89.trans (congrArg some (by kernel_rfl))
  t0 := Tryd.underlying0
  a0 := Tryd.isAgg0
  z0 := Tryd.sizeOf0
  v0 := Tryd.zeroValue0
  t3 := Tryd.underlying3
  a3 := Tryd.isAgg3
  z3 := Tryd.sizeOf3
  v3 := Tryd.zeroValue3
  t4 := Tryd.underlying4
  a4 := Tryd.isAgg4
  z4 := Tryd.sizeOf4
  v4 := Tryd.zeroValue4
  t5 := Tryd.underlying5
  a5 := Tryd.isAgg5
  z5 := Tryd.sizeOf5
  v5 := Tryd.zeroValue5
  t9 := Tryd.underlying9
  a9 := Tryd.isAgg9
  z9 := Tryd.sizeOf9
  v9 := Tryd.zeroValue9
  t21 := Tryd.underlying21
  a21 := Tryd.isAgg21
  z21 := Tryd.sizeOf21
  v21 := Tryd.zeroValue21
  t46 := Tryd.underlying97
  a46 := Tryd.isAgg97
  z46 := Tryd.sizeOf97
  v46 := Tryd.zeroValue97 }
open Go.RowKit Go.Lib in
theorem Tryd.strings_ContainsRune_ascii (s : ByteArray) (r : Int) (w : World) (h0 : 0 ≤ r) (h1 : r < 128) :
    Calls Tryd.prog 30 #[.string s, .int .i32 r] w fun e w' => e = .returned (.bool (decide (0 ≤ Lib.indexByte s.data.toList r.toNat.toUInt8))) ∧ w' = w := Any.strings_ContainsRune_ascii Tryd.lays151 s r w h0 h1
open Go.RowKit Go.Lib in
theorem Tryd.strings_IndexFunc_grows (g : Nat) (lb : Array Value) (eg : ∀ args w, (callFunc g args).run Tryd.prog w = .ok (.enter g args) w) (p : Nat → Bool) (s : ByteArray) (w : World) (hp : PredGrows Tryd.prog g lb p w) :
    Calls Tryd.prog 53 #[.string s, .func (.func g) #[] lb] w fun e w' => e = .returned (.int .i64 (Lib.idxFunc p true s)) ∧ Below w.heap.size w w' := Any.strings_IndexFunc_grows Tryd.laysGw15 g lb eg p s w hp
end Go.Proofs
end
section
namespace Go.Proofs.YtngeelpfbajppaaDoor.PD
open Go.RowKit Go.Proofs.YtngeelpfbajppaaDoorW.PrintWords Go.Proofs.YtngeelpfbajppaaDoorW.PrintLast Go.Proofs.YtngeelpfbajppaaDoorW.PrintMore
attribute [local go_sem] max2_int min2_int max_two min_two max_three min_three max_four min_four
attribute [local go_sem high] Go.Proofs.YtngeelpfbajppaaDoor.Bs.gtr_bl Go.Proofs.YtngeelpfbajppaaDoor.Bs.leq_bl Go.Proofs.YtngeelpfbajppaaDoor.Bs.cell_set2
set_option linter.unusedVariables false
set_option linter.unusedSimpArgs false
def strings_TrimLeft.f (a0 a1 : ByteArray) : Option ByteArray := if a1.size < 1000 then if a1.data.toList.all (fun b => decide (b.toNat < 128)) = true then some ⟨(Lib.trimLeftS a0.data.toList a1.data.toList).toArray⟩ else none else none
theorem strings_TrimLeft.calls (a0 a1 : ByteArray) (r : ByteArray) (w : World) (h : strings_TrimLeft.f a0 a1 = some r) :
    Calls Tryd.prog 16 #[.string a0, .string a1] w fun e w' => e = .returned (.string r) ∧ Below w.heap.size w w' := by
  unfold strings_TrimLeft.f at h
  split at h
  · split at h
    · rename_i h1 h2
      obtain rfl := Option.some.inj h
      exact Any.strings_TrimLeft_laid Tryd.lays161 (by kernel_rfl) a0 a1 w (by omega) (fun j b hj => by
        have := List.all_eq_true.1 h2 b (List.mem_of_getElem? hj)
        simpa using this)
    · cases h
  · cases h
end Go.Proofs.YtngeelpfbajppaaDoor.PD
end
section
namespace Go.Proofs.YtngeelpfbajppaaDoor.PD
open Go.RowKit Go.Proofs.YtngeelpfbajppaaDoorW.PrintWords Go.Proofs.YtngeelpfbajppaaDoorW.PrintLast Go.Proofs.YtngeelpfbajppaaDoorW.PrintMore
attribute [local go_sem] max2_int min2_int max_two min_two max_three min_three max_four min_four
attribute [local go_sem high] Go.Proofs.YtngeelpfbajppaaDoor.Bs.gtr_bl Go.Proofs.YtngeelpfbajppaaDoor.Bs.leq_bl Go.Proofs.YtngeelpfbajppaaDoor.Bs.cell_set2
set_option linter.unusedVariables false
set_option linter.unusedSimpArgs false
def lx_run (p : UInt8 → Bool) : List UInt8 → Nat
  | [] => 0
  | b :: l => if p b = true then lx_run p l + 1 else 0
theorem lx_run_le (p : UInt8 → Bool) : ∀ l, lx_run p l ≤ l.length
  | [] => Nat.le_refl _
  | b :: l => by
    have := lx_run_le p l
    unfold lx_run
    split <;> simp <;> omega
theorem lx_hit {p : UInt8 → Bool} {b : UInt8} {l : List UInt8} (h : p b = true) : lx_run p (b :: l) = lx_run p l + 1 := by simp [lx_run, h]
theorem lx_miss {p : UInt8 → Bool} {b : UInt8} {l : List UInt8} (h : p b = false) : lx_run p (b :: l) = 0 := by simp [lx_run, h]
theorem lx_high (n b0 b1 b2 b3 : Nat) (h : 128 ≤ b0) : 128 ≤ (Lib.decodeN n b0 b1 b2 b3).1 := by
  unfold Lib.decodeN
  repeat' split
  all_goals (try simp)
  all_goals omega
theorem lx_idx (p : Nat → Bool) (q : UInt8 → Bool) (hpq : ∀ b : UInt8, b.toNat < 128 → p b.toNat = !q b) (hp : ∀ r, 128 ≤ r → p r = true) (hq : ∀ b : UInt8, 128 ≤ b.toNat → q b = false) (s : ByteArray) :
    ∀ f pos, pos ≤ s.data.toList.length → s.data.toList.length ≤ f + pos →
      Lib.idxFuncFrom p true s f pos = if lx_run q (s.data.toList.drop pos) = s.data.toList.length - pos then -1 else ((pos + lx_run q (s.data.toList.drop pos) : Nat) : Int)
  | 0, pos, h1, h2 => by
    have e : pos = s.data.toList.length := by omega
    rw [List.drop_eq_nil_of_le (by omega)]
    simp [Lib.idxFuncFrom, lx_run, e]
  | f + 1, pos, h1, h2 => by
    have hz : s.data.toList.length = s.size := Array.length_toList
    have ih := lx_idx p q hpq hp hq s f (pos + 1)
    unfold Lib.idxFuncFrom
    by_cases c : pos < s.size
    · have c' : pos < s.data.toList.length := by omega
      rw [if_pos c, List.drop_eq_getElem_cons c', Lib.decode_N]
      have hg : s.data.toList.getD pos 0 = s.data.toList[pos] := by rw [List.getD_eq_getElem?_getD, List.getElem?_eq_getElem c']; rfl
      rw [hg]
      by_cases a : (s.data.toList[pos]).toNat < 128
      · rw [Lib.decodeN_ascii _ _ _ _ _ a]
        have hb := hpq _ a
        by_cases b : q s.data.toList[pos] = true
        · simp only [lx_hit b]
          rw [if_neg (by rw [hb, b]; simp), ih (by omega) (by omega)]
          by_cases e : lx_run q (s.data.toList.drop (pos + 1)) = s.data.toList.length - (pos + 1)
          · rw [if_pos e, if_pos (by omega)]
          · rw [if_neg e, if_neg (by omega)]; omega
        · have b' : q s.data.toList[pos] = false := by simpa using b
          simp only [lx_miss b']
          rw [if_pos (by rw [hb, b']; rfl), if_neg (by omega)]
          simp
      · have b' := hq s.data.toList[pos] (by omega)
        rw [if_pos (hp _ (lx_high _ _ _ _ _ (by omega)))]
        simp only [lx_miss b']
        rw [if_neg (by omega)]
        simp
    · rw [if_neg c, List.drop_eq_nil_of_le (by omega)]
      rw [if_pos (show lx_run q [] = _ by show 0 = _; omega)]
theorem lx_idx0 (p : Nat → Bool) (q : UInt8 → Bool) (hpq : ∀ b : UInt8, b.toNat < 128 → p b.toNat = !q b) (hp : ∀ r, 128 ≤ r → p r = true) (hq : ∀ b : UInt8, 128 ≤ b.toNat → q b = false) (s : ByteArray) :
    (Lib.idxFunc p true s = -1 ∧ lx_run q s.data.toList = s.size) ∨ Lib.idxFunc p true s = (lx_run q s.data.toList : Int) := by
  have hz : s.data.toList.length = s.size := Array.length_toList
  have h := lx_idx p q hpq hp hq s s.size 0 (Nat.zero_le _) (by omega)
  rw [List.drop_zero, Nat.sub_zero] at h
  unfold Lib.idxFunc
  by_cases c : lx_run q s.data.toList = s.data.toList.length
  · rw [if_pos c] at h
    exact .inl ⟨h, by omega⟩
  · rw [if_neg c] at h
    exact .inr (by rw [h]; simp)
abbrev lx_figs : ByteArray := ⟨#[48, 49, 50, 51, 52, 53, 54, 55, 56, 57]⟩
theorem lx_enc (r : Int) (X : ByteArray) (hX : X = Utf8.encode r) (h : 128 ≤ r) (h1 : r ≤ 1114111) (hs : ¬ (55296 ≤ r ∧ r ≤ 57343)) : ∃ n, 1 ≤ n ∧ n ≤ 3 ∧ ∃ hn : n < X.size, X.size = n + 1 ∧ (X[n]'hn).toNat = 128 + r.toNat % 64 := by
  have hv : Utf8.valid r = true := by simp [Utf8.valid]; omega
  obtain ⟨c, rfl⟩ := Int.eq_ofNat_of_zero_le (show 0 ≤ r by omega)
  have hm : ∀ x : Nat, x < 256 → (UInt8.ofNat x).toNat = x := fun x hx => by simp; omega
  unfold Utf8.encode at hX
  simp only [hv, if_true, Int.toNat_natCast] at hX
  have c0 : ¬ c < 128 := by omega
  simp only [if_neg c0] at hX
  by_cases c1 : c < 2048
  · simp only [if_pos c1] at hX
    subst hX
    exact ⟨1, by omega, by omega, (show (1 : Nat) < 2 by omega), rfl, hm _ (by omega)⟩
  · simp only [if_neg c1] at hX
    by_cases c2 : c < 65536
    · simp only [if_pos c2] at hX
      subst hX
      exact ⟨2, by omega, by omega, (show (2 : Nat) < 3 by omega), rfl, hm _ (by omega)⟩
    · simp only [if_neg c2] at hX
      subst hX
      exact ⟨3, by omega, by omega, (show (3 : Nat) < 4 by omega), rfl, hm _ (by omega)⟩
theorem lx_quiet {P : Program} {f : FuncId} {args : Array Value} {w : World} {a n : Nat} {v : Value}
    (h : Calls P f args (w.drewN (a + n)) fun e w' => e = .returned v ∧ w' = w.drewN (a + n)) :
    Calls P f args (w.drewN (a + n)) fun e w'' => e = .returned v ∧ ∃ m, w'' = w.drewN (a + m) :=
  h.mono fun _ _ ⟨he, hm⟩ => ⟨he, n, hm⟩
theorem lx_figs_low : ∀ b ∈ lx_figs.data.toList, b.toNat < 128 := by decide
theorem lx_ib (a b : Nat) (c : UInt8) (hc : 128 ≤ c.toNat) (w : World) : Calls Tryd.prog 66 #[.string (lx_figs.extract a b), .int .u8 (c.toNat : Int)] w fun e w' => e = .returned (.int .i64 (-1)) ∧ w' = w := by
  refine (Tryd.strings_IndexByte _ _ _).mono ?_
  rintro e w' ⟨rfl, rfl⟩
  refine ⟨?_, rfl⟩
  have hn : ∀ (l : List UInt8) (d : UInt8), (∀ b ∈ l, b ≠ d) → Lib.indexByte l d = -1 := by
    intro l d
    induction l with
    | nil => intro _; rfl
    | cons b l ih =>
      intro hh
      have h1 : (b == d) = false := by simpa using hh b (by simp)
      simp [Lib.indexByte, h1, ih (fun x hx => hh x (by simp [hx]))]
  rw [hn _ _ (fun b hb e => by
    have := lx_figs_low b (mem_extract hb)
    have e2 : ((c.toNat : Int)).toNat.toUInt8 = c := by simp
    rw [e2] at e
    subst e
    omega)]
set_option maxRecDepth 100000 in
set_option maxHeartbeats 1000000 in
theorem lx_ir_v (n : Nat) (hn3 : n = 1 ∨ n = 2 ∨ n = 3) (X : ByteArray) (hz : X.size = n + 1) (hn : n < X.size) (hb : 128 ≤ (X[n]'hn).toNat) (r : Int) (w : World) (hX : X = Utf8.encode r) (h : 128 ≤ r) (h1 : r ≤ 1114111) (hs : ¬ (55296 ≤ r ∧ r ≤ 57343)) (hf : ¬ r = 65533) :
    Calls Tryd.prog 55 #[.string lx_figs, .int .i32 r] w fun e w' => e = .returned (.int .i64 (-1)) ∧ ∃ q, w' = w.drewN q := by
  have c1 : decide (0 ≤ r) = true := decide_eq_true (by omega)
  have c2 : decide (r < 128) = false := decide_eq_false (by omega)
  have c3 : (r == 65533) = false := by simpa using hf
  have hv : Lib.validRune r = true := by simp [Lib.validRune]; omega
  have hr := Aside0.mk hv
  clear hv
  have hcv : ∀ w : World, (convert 21 9 (.int .i32 r)).run Tryd.prog w = .ok (.string X) w := fun w => by
    rw [hX]
    exact run_convert_int_string w 21 9 .i32 r (by rw [Tryd.underlying21]; rfl) Tryd.underlying9
  clear hX hs hf h1 h
  have hne : ∀ h1 h2, ((((lx_figs[n]'h1).toNat : Nat) : Int) != (((X[n]'h2).toNat : Nat) : Int)) = true := by
    intro h1 h2
    have : (lx_figs[n]'h1).toNat < 128 := lx_figs_low _ (Array.getElem_mem_toList (xs := lx_figs.data) h1)
    rw [bne_iff_ne]
    omega
  have hne' := Aside0.mk hne
  clear hne
  rcases hn3 with rfl | rfl | rfl
  all_goals
    go_enter Tryd.func55, Tryd.ntmps55
    go_wp2_with fail
    refine (Tryd.utf8_ValidRune r _).mono ?_
    rintro e w' ⟨rfl, rfl⟩
    rw [hr.out]
    go_wp2_with fail
    apply wp_scope_straight
    go_wp2_with fail
    refine wp_loop_rounds 1 ?_
    rw [rounds_succ]
    go_wp2
    apply wp_scope_straight
    go_wp2
    go_quiet (fail)
    rw [hne'.out]
    go_wp2
    have ew2 : IntKind.i64.wrap 2 = 2 := by decide
    have ew3 : IntKind.i64.wrap 3 = 3 := by decide
    have ew4 : IntKind.i64.wrap 4 = 4 := by decide
    go_quiet ((go_at_call 66; exact lx_quiet (lx_ib _ _ _ hb _)))
    go_wp2
    (try simp only [Exit.then, Exit.inBlock, Exit.noGoto_ret])
    go_ret
    exact ⟨rfl, ⟨_, rfl⟩⟩
set_option maxRecDepth 100000 in
set_option maxHeartbeats 1000000 in
theorem lx_ir_s (r : Int) (w : World) (hs : 55296 ≤ r ∧ r ≤ 57343) :
    Calls Tryd.prog 55 #[.string lx_figs, .int .i32 r] w fun e w' => e = .returned (.int .i64 (-1)) ∧ ∃ q, w' = w.drewN q := by
  have c1 : decide (0 ≤ r) = true := decide_eq_true (by omega)
  have c2 : decide (r < 128) = false := decide_eq_false (by omega)
  have c3 : (r == 65533) = false := by simp; omega
  have hv : Lib.validRune r = false := by simp [Lib.validRune]; omega
  have hr := Aside0.mk hv
  clear hv hs
  go_enter Tryd.func55, Tryd.ntmps55
  go_wp2_with fail
  refine (Tryd.utf8_ValidRune r _).mono ?_
  rintro e w' ⟨rfl, rfl⟩
  rw [hr.out]
  go_wp2_with fail
  go_ret
  exact ⟨rfl, ⟨0, rfl⟩⟩
set_option maxRecDepth 100000 in
set_option maxHeartbeats 1000000 in
theorem lx_ir_f (w : World) :
    Calls Tryd.prog 55 #[.string lx_figs, .int .i32 65533] w fun e w' => e = .returned (.int .i64 (-1)) ∧ Below w.heap.size w w' := by
  have hz : lx_figs.size = 10 := rfl
  go_enter Tryd.func55, Tryd.ntmps55
  go_wp2_with fail
  go_loopg [] 10 (fun gf wx => ∃ pos : Nat, wx.heap[w.heap.size]? = some (.stringIter lx_figs pos) ∧ Below w.heap.size w wx ∧ Aside0 (pos + gf = 10))
  case atStart => exact ⟨0, World.iter_heap w lx_figs 0, (Below.refl _ w).alloc (Nat.le_refl _) _, ⟨rfl⟩⟩
  case round =>
    obtain ⟨pos, hit, hbw, hg⟩ := hrel
    by_cases hps : pos < lx_figs.size
    · have ha : (lx_figs[pos]'hps).toNat < 128 := lx_figs_low _ (Array.getElem_mem_toList (xs := lx_figs.data) hps)
      have hnx : ∀ ty, (Instr.next (.pointer (some ⟨w.heap.size, 0, none⟩)) true ty).run Tryd.prog wr = _ := fun ty => Lib.run_next_any_at wr w.heap.size lx_figs pos ty hit hps
      obtain ⟨R, hR⟩ : ∃ R, (lx_figs[pos]'hps).toNat = R := ⟨_, rfl⟩
      simp only [decode_ascii lx_figs pos hps ha] at hnx
      simp only [hR] at hnx
      rw [hR] at ha
      have hne : ((R : Int) == 65533) = false := by simp; omega
      have hit2 := Lib.iterAt_heap wr w.heap.size lx_figs pos (pos + 1) hit
      have hbw2 := Lib.below_iterAt hbw (k := w.heap.size) (Nat.le_refl _) lx_figs (pos + 1)
      obtain ⟨W, hWd⟩ : ∃ W, wr.iterAt w.heap.size lx_figs (pos + 1) = W := ⟨_, rfl⟩
      rw [hWd] at hnx hit2 hbw2
      clear hR hWd hz
      have hit2' := Aside0.mk hit2
      have hbw2' := Aside0.mk hbw2
      have hps' := Aside0.mk hps
      clear hit2 hbw2 hps hit hbw
      go_wp2_with fail
      go_roundg (gk - 1)
      case measure => have := hg.out; have := hps'.out; have : lx_figs.size = 10 := rfl; omega
      case rel => exact ⟨pos + 1, hit2'.out, hbw2'.out, ⟨by have := hg.out; have := hps'.out; have : lx_figs.size = 10 := rfl; omega⟩⟩
    · have hnx : ∀ ty, (Instr.next (.pointer (some ⟨w.heap.size, 0, none⟩)) true ty).run Tryd.prog wr = _ := fun ty => Lib.run_next_end_at wr w.heap.size lx_figs pos ty hit hps
      have hbw' := Aside0.mk hbw
      clear hps hz hbw
      go_wp2
      go_ret
      exact ⟨rfl, hbw'.out⟩
theorem lx_ir (r : Int) (w : World) (h : 128 ≤ r) (h1 : r ≤ 1114111) : Calls Tryd.prog 55 #[.string lx_figs, .int .i32 r] w fun e w' => e = .returned (.int .i64 (-1)) ∧ Below w.heap.size w w' := by
  by_cases hf : r = 65533
  · subst hf; exact lx_ir_f w
  · by_cases hs : 55296 ≤ r ∧ r ≤ 57343
    · exact (lx_ir_s r w hs).mono fun e w' ⟨he, q, hq⟩ => ⟨he, hq ▸ pw_below_drewN (Below.refl _ _) q⟩
    · obtain ⟨n, n1, n3, hn, hz, hb⟩ := lx_enc r _ rfl h h1 hs
      exact (lx_ir_v n (by omega) _ hz hn (by omega) r w rfl h h1 hs hf).mono fun e w' ⟨he, q, hq⟩ => ⟨he, hq ▸ pw_below_drewN (Below.refl _ _) q⟩
def lx_pF (r : Int) : Bool := decide (48 ≤ r) && decide (r ≤ 57)
def lx_pL (r : Int) : Bool := (decide (97 ≤ r) && decide (r ≤ 122)) || (decide (65 ≤ r) && decide (r ≤ 90))
def lx_pN (r : Int) : Bool := lx_pL r || (decide (r = 95) || lx_pF r)
theorem lx_cr_tab : ∀ n : Fin 128, decide (0 ≤ Lib.indexByte lx_figs.data.toList n.val.toUInt8) = lx_pF (n.val : Int) := by decide +kernel
set_option maxRecDepth 100000 in
theorem lx_cr (r : Int) (w : World) (h0 : 0 ≤ r) (h1 : r ≤ 1114111) : Calls Tryd.prog 30 #[.string lx_figs, .int .i32 r] w fun e w' => e = .returned (.bool (lx_pF r)) ∧ Below w.heap.size w w' := by
  by_cases c : r < 128
  · refine (Tryd.strings_ContainsRune_ascii lx_figs r w h0 c).mono ?_
    rintro e w' ⟨rfl, rfl⟩
    obtain ⟨n, rfl⟩ := Int.eq_ofNat_of_zero_le h0
    refine ⟨?_, Below.refl _ _⟩
    have := lx_cr_tab ⟨n, by omega⟩
    simp only at this
    rw [Int.toNat_natCast, this]
  · have e : lx_pF r = false := by simp [lx_pF]; omega
    rw [e]
    have hI := lx_ir r w (by omega) h1
    clear e h0 h1 c
    go_enter Tryd.func30, Tryd.ntmps30
    go_wp2_with fail
    refine hI.mono ?_
    rintro e w' ⟨rfl, hb⟩
    go_wp2_with fail
    go_ret
    exact ⟨rfl, hb⟩
theorem lx_let (r : Int) (w : World) : Calls Tryd.prog 27 #[.int .i32 r] w fun e w' => e = .returned (.bool (lx_pL r)) ∧ w' = w := by
  unfold lx_pL
  cases c1 : decide (97 ≤ r) <;> cases c2 : decide (r ≤ 122) <;> cases c3 : decide (65 ≤ r) <;> cases c4 : decide (r ≤ 90)
  all_goals
    simp only [Bool.and_true, Bool.and_false, Bool.or_true, Bool.or_false, Bool.true_or, Bool.false_or]
    go_enter Tryd.func27, Tryd.ntmps27
    go_wp2
    go_ret
    exact ⟨rfl, rfl⟩
def LxPred (g : Nat) (p : Int → Bool) : Prop := ∀ (W : World) (x : Int), 0 ≤ x → x ≤ 1114111 → Calls Tryd.prog g #[.int .i32 x] W fun e w' => e = .returned (.bool (p x)) ∧ Below W.heap.size W w'
theorem lx_two : LxPred 31 lx_pF := by
  intro W r h0 h1
  have hI := lx_cr r W h0 h1
  go_enter Tryd.func31, Tryd.ntmps31
  go_wp2_with fail
  refine hI.mono ?_
  rintro e w' ⟨rfl, hb⟩
  go_wp2_with fail
  go_ret
  exact ⟨rfl, hb⟩
theorem lx_name : LxPred 29 lx_pN := by
  intro W r h0 h1
  have hI := Aside0.mk (lx_cr r W h0 h1)
  unfold lx_pN
  cases hL : lx_pL r with
  | true =>
    rw [Bool.true_or]
    have HL := Aside0.mk hL
    clear hL hI
    go_enter Tryd.func29, Tryd.ntmps29
    go_wp2_with fail
    refine (lx_let r W).mono ?_
    rintro e w' ⟨rfl, rfl⟩
    rw [HL.out]
    go_wp2_with fail
    go_ret
    exact ⟨rfl, Below.refl _ _⟩
  | false =>
    rw [Bool.false_or]
    have HL := Aside0.mk hL
    clear hL
    by_cases c : r = 95
    · rw [decide_eq_true c, Bool.true_or]
      have cb : (r == 95) = true := by simpa using c
      clear c
      go_enter Tryd.func29, Tryd.ntmps29
      go_wp2_with fail
      refine (lx_let r W).mono ?_
      rintro e w' ⟨rfl, rfl⟩
      rw [HL.out]
      go_wp2_with fail
      go_ret
      exact ⟨rfl, Below.refl _ _⟩
    · rw [decide_eq_false c, Bool.false_or]
      have cb : (r == 95) = false := by simpa using c
      clear c
      go_enter Tryd.func29, Tryd.ntmps29
      go_wp2_with fail
      refine (lx_let r W).mono ?_
      rintro e w' ⟨rfl, rfl⟩
      rw [HL.out]
      go_wp2_with fail
      refine hI.out.mono ?_
      rintro e w2 ⟨rfl, hb⟩
      go_wp2_with fail
      go_ret
      exact ⟨rfl, hb⟩
set_option maxRecDepth 100000 in
theorem lx_len1 (g : Nat) (p : Int → Bool) (eg : ∀ args w, (callFunc g args).run Tryd.prog w = .ok (.enter g args) w) (hp : LxPred g p) (B : Nat) (x : Int) (W : World) (h0 : 0 ≤ x) (h1 : x ≤ 1114111) (hc : W.cell? ⟨B, 0, none⟩ = some (.func (.func g) #[] #[])) :
    Calls Tryd.prog 54 #[.int .i32 x, .pointer (some ⟨B, 0, none⟩)] W fun e w' => e = .returned (.bool (!p x)) ∧ Below W.heap.size W w' := by
  have hI := hp W x h0 h1
  clear hp h0 h1
  go_enter Tryd.func54, Tryd.ntmps54
  go_wp2_with (go_at_fn g; refine hI.mono ?_; rintro e w' ⟨rfl, hb⟩)
  go_ret
  exact ⟨rfl, hb⟩
theorem lx_grows (g : Nat) (p : Int → Bool) (eg : ∀ args w, (callFunc g args).run Tryd.prog w = .ok (.enter g args) w) (hp : LxPred g p) (B : Nat) (w : World) (hB : B < w.heap.size) (hc : w.cell? ⟨B, 0, none⟩ = some (.func (.func g) #[] #[])) :
    PredGrows Tryd.prog 54 #[.pointer (some ⟨B, 0, none⟩)] (fun r => !p (r : Int)) w := by
  intro W x hx hb
  exact lx_len1 g p eg hp B (x : Int) W (by omega) (by omega) ((hb.cell (p := ⟨B, 0, none⟩) hB).trans hc)
set_option maxRecDepth 100000 in
theorem lx_length (g : Nat) (p : Int → Bool) (q : UInt8 → Bool) (eg : ∀ args w, (callFunc g args).run Tryd.prog w = .ok (.enter g args) w) (hp : LxPred g p) (hpq : ∀ b : UInt8, b.toNat < 128 → p (b.toNat : Int) = q b) (hpp : ∀ r : Nat, 128 ≤ r → p (r : Int) = false) (hq : ∀ b : UInt8, 128 ≤ b.toNat → q b = false) (s : ByteArray) (w : World) :
    Calls Tryd.prog 28 #[.string s, .func (.func g) #[] #[]] w fun e w' => e = .returned (.int .i64 (lx_run q s.data.toList : Int)) ∧ Below w.heap.size w w' := by
  have e54 : ∀ args w, (callFunc 54 args).run Tryd.prog w = .ok (.enter 54 args) w := enters_of Tryd.func54 (by kernel_rfl) rfl
  have hx := lx_idx0 (fun r => !p (r : Int)) q (fun b hb => by rw [hpq b hb]) (fun r hr => by rw [hpp r hr]; rfl) hq s
  have hI := fun W hB hc => Tryd.strings_IndexFunc_grows 54 #[.pointer (some ⟨w.heap.size, 0, none⟩)] e54 (fun r => !p (r : Int)) s W (lx_grows g p eg hp w.heap.size W hB hc)
  have hI' := Aside0.mk hI
  have hx' := Aside0.mk hx
  clear hx hI hpq hpp hq hp
  rcases hx'.out with ⟨h1, h2⟩ | h1
  · have h1' := Aside0.mk h1
    have h2' := Aside0.mk h2
    clear h1 h2 hx'
    go_enter Tryd.func28, Tryd.ntmps28
    go_wp2_with fail
    refine (hI'.out _ (by simp) (by simp)).mono ?_
    rintro e w' ⟨rfl, hb⟩
    rw [h1'.out]
    go_wp2_with fail
    go_ret
    refine ⟨by rw [h2'.out]; rfl, ?_⟩
    exact ((Below.refl _ _).alloc (Nat.le_refl _) _).trans (hb.mono (by simp))
  · have h1' := Aside0.mk h1
    have hn : decide (0 ≤ (lx_run q s.data.toList : Int)) = true := decide_eq_true (by omega)
    clear h1 hx'
    go_enter Tryd.func28, Tryd.ntmps28
    go_wp2_with fail
    refine (hI'.out _ (by simp) (by simp)).mono ?_
    rintro e w' ⟨rfl, hb⟩
    rw [h1'.out]
    go_wp2_with fail
    go_ret
    refine ⟨rfl, ?_⟩
    exact ((Below.refl _ _).alloc (Nat.le_refl _) _).trans (hb.mono (by simp))
def lx_q : List UInt8 → Option (List UInt8 × Nat)
  | [] => none
  | [b] => if b = 39 then some ([], 1) else none
  | b :: c :: l => if b = 39 then (if c = 39 then (lx_q l).map fun x => (39 :: x.1, x.2 + 2) else some ([], 1)) else (lx_q (c :: l)).map fun x => (b :: x.1, x.2 + 1)
theorem lx_idx39_eq (l : List UInt8) : Lib.index (39 :: l) [39] = 0 := by simp [Lib.index]
theorem lx_cut_hit (l : List UInt8) : Lib.cut (39 :: l) [39] = ([], l, true) := by
  unfold Lib.cut
  rw [lx_idx39_eq]
  simp
theorem lx_cut_nil : Lib.cut [] [39] = ([], [], false) := by decide
theorem lx_cut_miss {b : UInt8} (hb : b ≠ 39) (l : List UInt8) : Lib.cut (b :: l) [39] = (b :: (Lib.cut l [39]).1, (Lib.cut l [39]).2.1, (Lib.cut l [39]).2.2) ∨ ((Lib.cut l [39]).2.2 = false ∧ (Lib.cut (b :: l) [39]).2.2 = false) := by
  have hb' : (39 == b) = false := by simpa using Ne.symm hb
  have hge := Lib.index_ge l [39]
  unfold Lib.cut
  by_cases hm : 0 ≤ Lib.index l [39]
  · left
    obtain ⟨i, hi⟩ := Int.eq_ofNat_of_zero_le hm
    have h1 : Lib.index (b :: l) [39] = ((i + 1 : Nat) : Int) := by
      have hm' : ¬ ((i : Int) = -1) := by omega
      simp [Lib.index, hi, Ne.symm hb]
    rw [h1, hi, if_pos (by omega), if_pos (by omega)]
    simp only [Int.toNat_natCast, List.take_succ_cons, List.length_cons, List.length_nil]
    rw [show i + 1 + (0 + 1) = (i + (0 + 1)) + 1 by omega, List.drop_succ_cons]
  · right
    have h1 : Lib.index (b :: l) [39] = -1 := by
      have : Lib.index l [39] = -1 := by omega
      simp [Lib.index, this, Ne.symm hb]
    rw [h1, if_neg hm, if_neg (by omega)]
    exact ⟨rfl, rfl⟩
theorem lx_q_cut : ∀ l : List UInt8, lx_q l = if (Lib.cut l [39]).2.2 = true then
    (if Lib.hasPrefix (Lib.cut l [39]).2.1 [39] = true then (lx_q ((Lib.cut l [39]).2.1.drop 1)).map fun x => ((Lib.cut l [39]).1 ++ 39 :: x.1, (Lib.cut l [39]).1.length + 2 + x.2) else some ((Lib.cut l [39]).1, (Lib.cut l [39]).1.length + 1)) else none
  | [] => by rw [lx_cut_nil]; rfl
  | [b] => by
    by_cases hb : b = 39
    · subst hb; rw [lx_cut_hit]; simp [lx_q, Lib.hasPrefix]
    · rcases lx_cut_miss hb [] with h | h
      · rw [h, lx_cut_nil]; simp [lx_q, hb]
      · rw [h.2]; simp [lx_q, hb]
  | b :: c :: l => by
    by_cases hb : b = 39
    · subst hb
      rw [lx_cut_hit]
      by_cases hc : c = 39
      · subst hc
        simp [lx_q, Lib.hasPrefix]
        congr 1
        funext x
        simp [Nat.add_comm]
      · have hc' : Lib.hasPrefix (c :: l) [39] = false := by simp [Lib.hasPrefix, List.isPrefixOf, Ne.symm hc]
        simp [lx_q, hc, hc']
    · have ih := lx_q_cut (c :: l)
      rcases lx_cut_miss hb (c :: l) with h | h
      · rw [h]
        simp only
        rw [lx_q, if_neg hb, ih]
        by_cases e : (Lib.cut (c :: l) [39]).2.2 = true
        · rw [if_pos e, if_pos e]
          by_cases f : Lib.hasPrefix (Lib.cut (c :: l) [39]).2.1 [39] = true
          · rw [if_pos f, if_pos f, Option.map_map]
            congr 1
            funext x
            simp [Nat.add_comm, Nat.add_left_comm]
          · rw [if_neg f, if_neg f]
            simp
        · rw [if_neg e, if_neg e]; rfl
      · rw [h.2, lx_q, if_neg hb, ih, h.1]
        simp
theorem lx_cut_len : ∀ l : List UInt8, (Lib.cut l [39]).2.2 = true → l.length = (Lib.cut l [39]).1.length + 1 + (Lib.cut l [39]).2.1.length ∧ l.drop ((Lib.cut l [39]).1.length + 1) = (Lib.cut l [39]).2.1
  | [], h => by rw [lx_cut_nil] at h; cases h
  | b :: l, h => by
    by_cases hb : b = 39
    · subst hb; rw [lx_cut_hit]; simp; omega
    · rcases lx_cut_miss hb l with e | e
      · rw [e] at h
        obtain ⟨h1, h2⟩ := lx_cut_len l h
        rw [e]
        refine ⟨by simp only [List.length_cons]; omega, ?_⟩
        simp only [List.length_cons, List.drop_succ_cons]
        exact h2
      · rw [e.2] at h; cases h
abbrev lx_TB : TypeId := 78
abbrev lx_TU : TypeId := 5
theorem lx_l166 : Go.Proofs.Lays.n166 Tryd.prog Tryd.lays155_ren := { Tryd.lays155 with }
theorem lx_isBF_below {T e : TypeId} {B b : Nat} {bs : List Value} {w w' : World} (h : Lib.IsBuilderF T e B b bs w) (hb : Below w.heap.size w w') : Lib.IsBuilderF T e B b bs w' := by
  have key : ∀ p, Lib.BuilderAtF T e B b p bs w → Lib.BuilderAtF T e B b p bs w' := by
    rintro p ⟨h0, v, h1, h2, h3⟩
    refine ⟨h0, v, (hb.block b (Array.getElem?_eq_some_iff.1 h1).1).trans h1, ?_, h3⟩
    obtain ⟨a1, a2⟩ := h2
    refine ⟨a1, ?_⟩
    rcases a2 with a2 | ⟨g, cap, cur, m, rfl, hg, hh, r⟩
    · exact .inl a2
    · exact .inr ⟨g, cap, cur, m, rfl, hg, (hb.block g (Array.getElem?_eq_some_iff.1 hh).1).trans hh, r⟩
  exact h.elim (fun x => .inl (key _ x)) (fun x => .inr (key _ x))
theorem lx_cells_append (a b : ByteArray) : Lib.strCells (a ++ b) = Lib.strCells a ++ Lib.strCells b := by
  simp [Lib.strCells, ByteArray.data_append]
theorem lx_cutc (E P R : ByteArray) (b : Bool) (w : World) (hG : Go.Proofs.YtngeelpfbajppaaDoor.Bs.Gl w) (hs : E.size < 4294967281) (hP : P = ⟨(Lib.cut E.data.toList [39]).1.toArray⟩) (hR : R = ⟨(Lib.cut E.data.toList [39]).2.1.toArray⟩) (hb : b = (Lib.cut E.data.toList [39]).2.2) :
    Calls Tryd.prog 57 #[.string E, .string ⟨#[39]⟩] w fun e w' => e = .returned (.tuple #[.string P, .string R, .bool b]) ∧ Below w.heap.size w w' := by
  obtain ⟨m, hm⟩ := hG.maxLen
  subst hP hR hb
  exact (Tryd.strings_Cut E ⟨#[39]⟩ m w hs hm).mono fun e w' ⟨he, n, hn⟩ => ⟨he, hn ▸ pw_below_drewN (Below.refl _ _) n⟩
theorem lx_ret2 {a b : ByteArray} {n m : Int} (h1 : a = b) (h2 : n = m) : Ending.returned (.tuple #[.string a, .int .i64 n]) = .returned (.tuple #[.string b, .int .i64 m]) := by rw [h1, h2]
def lx_qr (r : Option (List UInt8 × Nat)) : ByteArray × Int := match r with | some (t, n) => (⟨t.toArray⟩, (n : Int) + 1) | none => (⟨#[]⟩, 0)
set_option maxRecDepth 100000 in
set_option maxHeartbeats 1000000 in
theorem lx_quoted (s : ByteArray) (w : World) (hG : Go.Proofs.YtngeelpfbajppaaDoor.Bs.Gl w) (hs : s.size < 4294967281) (h1 : 1 ≤ s.size) :
    Calls Tryd.prog 33 #[.string s] w fun e w' => e = .returned (.tuple #[.string (lx_qr (lx_q (s.data.toList.drop 1))).1, .int .i64 (lx_qr (lx_q (s.data.toList.drop 1))).2]) ∧ Below w.heap.size w w' := by
  have HG := Aside0.mk hG
  have hS : s.data.toList.length = s.size := Array.length_toList
  obtain ⟨T, hT⟩ : ∃ T, T = lx_q (s.data.toList.drop 1) := ⟨_, rfl⟩
  rw [← hT]
  have HT0 : Aside0 (T = (lx_q (s.data.toList.drop 1)).map fun x => ((⟨#[]⟩ : ByteArray).data.toList ++ x.1, 0 + x.2)) := ⟨by rw [hT]; cases lx_q (s.data.toList.drop 1) <;> simp⟩
  clear hG hT
  have HS := Aside0.mk hS
  clear hS
  go_enter Tryd.func33, Tryd.ntmps33
  have hI0 := Aside0.mk (Lib.IsBuilderF.of (Lib.fresh_isBuilder lx_TB lx_TU w))
  have hB0 := Aside0.mk (below_alloc (Below.refl w.heap.size w) (.cells #[.pointer none, .slice none 0 0] lx_TB))
  go_wp2
  go_loopg [5] (s.size - 1) (fun kq v5 w' => ∃ (at_ : Nat) (acc : ByteArray), v5 = .int .i64 (at_ : Int) ∧ Aside0 (1 ≤ at_) ∧ Aside0 (at_ ≤ s.size) ∧ Aside0 (kq = s.size - at_) ∧ Aside0 (T = (lx_q (s.data.toList.drop at_)).map fun x => (acc.data.toList ++ x.1, at_ - 1 + x.2)) ∧ Aside0 (acc.size ≤ at_) ∧ Aside0 (Lib.IsBuilderF lx_TB lx_TU w.heap.size w.heap.size (Lib.strCells acc) w') ∧ Aside0 (Below w.heap.size w w'))
  case atStart => exact ⟨1, ⟨#[]⟩, rfl, ⟨Nat.le_refl _⟩, ⟨h1⟩, ⟨rfl⟩, HT0, ⟨Nat.zero_le _⟩, hI0, hB0⟩
  case round =>
    obtain ⟨at_, acc, rfl, ha1, has, hk, HT, hz, HI, HB⟩ := hrel
    obtain ⟨P, hP⟩ : ∃ P : ByteArray, P = ⟨(Lib.cut (s.data.toList.drop at_) [39]).1.toArray⟩ := ⟨_, rfl⟩
    obtain ⟨R, hR⟩ : ∃ R : ByteArray, R = ⟨(Lib.cut (s.data.toList.drop at_) [39]).2.1.toArray⟩ := ⟨_, rfl⟩
    have hE : (s.extract at_ s.size).data.toList = s.data.toList.drop at_ := by
      rw [Lib.extract_data, List.take_of_length_le (by rw [List.length_drop, HS.out]; omega)]
    have hEs : (s.extract at_ s.size).size < 4294967281 := by
      have : (s.extract at_ s.size).data.toList.length = (s.extract at_ s.size).size := Array.length_toList
      rw [hE, List.length_drop, HS.out] at this
      omega
    have hPd : P.data.toList = (Lib.cut (s.data.toList.drop at_) [39]).1 := by rw [hP]
    have hRd : R.data.toList = (Lib.cut (s.data.toList.drop at_) [39]).2.1 := by rw [hR]
    have hPl : P.data.toList.length = P.size := Array.length_toList
    have hRl : R.data.toList.length = R.size := Array.length_toList
    have hC : ∀ (b : Bool), b = (Lib.cut (s.data.toList.drop at_) [39]).2.2 → Calls Tryd.prog 57 #[.string (s.extract at_ s.size), .string ⟨#[39]⟩] wr fun e w' => e = .returned (.tuple #[.string P, .string R, .bool b]) ∧ Below wr.heap.size wr w' := fun b hb =>
      lx_cutc (s.extract at_ s.size) P R b wr (HG.out.below HB.out) hEs (by rw [hE]; exact hP) (by rw [hE]; exact hR) (by rw [hE]; exact hb)
    have hq := lx_q_cut (s.data.toList.drop at_)
    have hlen := lx_cut_len (s.data.toList.drop at_)
    have hC' := Aside0.mk hC
    have p1 : 0 ≤ (at_ : Int) := by omega
    have p2 : (at_ : Int) ≤ (s.size : Int) := by have := has.out; omega
    have p3 : (at_ : Int) ≤ 4294967281 := by have := has.out; omega
    clear hC hE hEs hP hR
    cases hb : (Lib.cut (s.data.toList.drop at_) [39]).2.2 with
    | false =>
      have HC := Aside0.mk (hC'.out false hb.symm)
      rw [hb, if_neg (by simp)] at hq
      have HT' := HT.out
      rw [hq] at HT'
      subst HT'
      clear hq hlen hC' hPd hRd hPl hRl hb HT
      go_wp2_with fail
      refine HC.out.mono ?_
      rintro e w2 ⟨rfl, hb2⟩
      have HB2 := Aside0.mk (HB.out.trans (hb2.mono HB.out.size))
      clear hb2
      go_wp2_with fail
      go_ret2
      exact ⟨rfl, HB2.out⟩
    | true =>
      have HC := Aside0.mk (hC'.out true hb.symm)
      obtain ⟨hl1, hl2⟩ := hlen hb
      rw [hb, if_pos rfl, ← hPd, ← hRd] at hq
      rw [← hPd, ← hRd, hPl, hRl, List.length_drop, HS.out] at hl1
      rw [← hPd, ← hRd, hPl, List.drop_drop] at hl2
      have p4 : (P.size : Int) ≤ 4294967281 := by omega
      have p5 : at_ + P.size + 1 + R.size = s.size := by have := has.out; omega
      have HL2 := Aside0.mk hl2
      have HP5 := Aside0.mk p5
      have HQ := Aside0.mk hq
      have HPD := Aside0.mk hPl
      clear hq hlen hC' hPd hRd hPl hRl hb hl1 hl2 p5
      go_wp2_with fail
      refine HC.out.mono ?_
      rintro e w2 ⟨rfl, hb2⟩
      have HB2 := Aside0.mk (HB.out.trans (hb2.mono HB.out.size))
      have HI2 := Aside0.mk (lx_isBF_below HI.out hb2)
      clear hb2
      go_wp2_with fail
      refine (Any.Builder_WriteString_k lx_l166 Tryd.Builder_Extra_155 w.heap.size w.heap.size (Lib.strCells acc) P w2 HI2.out (by rw [Lib.strCells_length]; have := hz.out; have := has.out; omega) HB2.out.size).mono ?_
      rintro e w3 ⟨rfl, hI3, hB3, -⟩
      rw [← lx_cells_append] at hI3
      have HI3 : Aside0 (Lib.IsBuilderF lx_TB lx_TU w.heap.size w.heap.size (Lib.strCells (acc ++ P)) w3) := ⟨.inr hI3⟩
      have HB3 := Aside0.mk (HB2.out.trans hB3)
      clear hI3 hB3
      cases hh : Lib.hasPrefix R.data.toList [39] with
      | false =>
        have hpre := Aside0.mk hh
        clear hh
        go_wp2_with fail
        refine (Tryd.strings_HasPrefix R ⟨#[39]⟩ w3).mono ?_
        rintro e w4 ⟨rfl, rfl⟩
        rw [show Lib.hasPrefix R.data.toList (⟨#[39]⟩ : ByteArray).data.toList = false from hpre.out]
        go_wp2_with fail
        refine (Any.Builder_String_any_f Tryd.lays169 Tryd.Builder_Extra_169 w.heap.size w.heap.size (acc ++ P).data.toList w4 HI3.out HB3.out.size).mono ?_
        rintro e w5 ⟨rfl, -, hB5⟩
        have HB5 := Aside0.mk (HB3.out.trans hB5)
        clear hB5
        go_wp2_with fail
        go_ret2
        refine ⟨?_, HB5.out⟩
        rw [HT.out, HQ.out, if_neg (by rw [hpre.out]; simp)]
        simp only [lx_qr, Option.map_some, ByteArray.data_append, Array.toList_append, HPD.out]
        have := ha1.out
        exact lx_ret2 rfl (by omega)
      | true =>
        have hpre := Aside0.mk hh
        clear hh
        go_wp2_with fail
        refine (Tryd.strings_HasPrefix R ⟨#[39]⟩ w3).mono ?_
        rintro e w4 ⟨rfl, rfl⟩
        rw [show Lib.hasPrefix R.data.toList (⟨#[39]⟩ : ByteArray).data.toList = true from hpre.out]
        have hR1 : 1 ≤ R.size := by
          rcases hr : R.data.toList with _ | ⟨x, l⟩
          · have := hpre.out; rw [hr] at this; cases this
          · have : R.data.toList.length = R.size := Array.length_toList
            rw [hr] at this; simp at this; omega
        have hR1' := Aside0.mk hR1
        clear hR1
        go_wp2_with fail
        refine (Any.Builder_WriteString_k lx_l166 Tryd.Builder_Extra_155 w.heap.size w.heap.size (Lib.strCells (acc ++ P)) ⟨#[39]⟩ w4 HI3.out (by rw [Lib.strCells_length, ByteArray.size_append, show (⟨#[39]⟩ : ByteArray).size = 1 from rfl]; have := hz.out; have := has.out; omega) HB3.out.size).mono ?_
        rintro e w5 ⟨rfl, hI5, hB5, -⟩
        rw [← lx_cells_append] at hI5
        have HI5 : Aside0 (Lib.IsBuilderF lx_TB lx_TU w.heap.size w.heap.size (Lib.strCells (acc ++ P ++ ⟨#[39]⟩)) w5) := ⟨.inr hI5⟩
        have HB5 := Aside0.mk (HB3.out.trans hB5)
        clear hI5 hB5
        go_wp2_with fail
        go_roundg (gk - (P.size + 2))
        case measure => have := hk.out; have := HP5.out; have := hR1'.out; omega
        case rel =>
          refine ⟨at_ + P.size + 2, acc ++ P ++ ⟨#[39]⟩, (by first | rfl | (congr 1; omega)), ⟨by omega⟩, ⟨by have := HP5.out; have := hR1'.out; omega⟩, ⟨by have := hk.out; have := HP5.out; have := hR1'.out; omega⟩, ⟨?_⟩, ⟨by rw [ByteArray.size_append, ByteArray.size_append, show (⟨#[39]⟩ : ByteArray).size = 1 from rfl]; have := hz.out; omega⟩, HI5, HB5⟩
          rw [HT.out, HQ.out, if_pos hpre.out, Option.map_map, ← HL2.out, List.drop_drop, HPD.out, show at_ + (P.size + 1) + 1 = at_ + P.size + 2 by omega]
          congr 1
          funext x
          simp only [Function.comp, ByteArray.data_append, Array.toList_append]
          have := ha1.out
          rw [show at_ - 1 + (P.size + 2 + x.2) = at_ + P.size + 2 - 1 + x.2 by omega]
          simp
def lx_marks : List ByteArray := [⟨#[60, 61]⟩, ⟨#[62, 61]⟩, ⟨#[60, 62]⟩, ⟨#[40]⟩, ⟨#[41]⟩, ⟨#[44]⟩, ⟨#[61]⟩, ⟨#[60]⟩, ⟨#[62]⟩, ⟨#[43]⟩, ⟨#[45]⟩, ⟨#[42]⟩]
def LxMk (w : World) (e : Ending) (w' : World) : Prop := ∃ b, e = .returned (.slice (some ⟨b, 0, none⟩) 12 12) ∧ w.heap.size ≤ b ∧ b < w'.heap.size ∧ (∀ j, j < 12 → w'.cell? ⟨b, j, none⟩ = some (.string (lx_marks.getD j ByteArray.empty))) ∧ Below w.heap.size w w'
set_option maxRecDepth 100000 in
theorem lx_mk (w : World) : Calls Tryd.prog 35 #[] w (LxMk w) := by
  go_enter Tryd.func35, Tryd.ntmps35
  go_wp2
  go_ret
  have hx := heap_alloc_new w (.cells #[.string ⟨#[60, 61]⟩, .string ⟨#[62, 61]⟩, .string ⟨#[60, 62]⟩, .string ⟨#[40]⟩, .string ⟨#[41]⟩, .string ⟨#[44]⟩, .string ⟨#[61]⟩, .string ⟨#[60]⟩, .string ⟨#[62]⟩, .string ⟨#[43]⟩, .string ⟨#[45]⟩, .string ⟨#[42]⟩] 9)
  refine ⟨w.heap.size, rfl, Nat.le_refl _, by simp, ?_, (Below.refl _ _).alloc (Nat.le_refl _) _⟩
  intro j hj
  refine (blk_cell hx j).trans ?_
  match j, hj with
  | 0, _ => rfl
  | 1, _ => rfl
  | 2, _ => rfl
  | 3, _ => rfl
  | 4, _ => rfl
  | 5, _ => rfl
  | 6, _ => rfl
  | 7, _ => rfl
  | 8, _ => rfl
  | 9, _ => rfl
  | 10, _ => rfl
  | 11, _ => rfl
set_option maxRecDepth 100000 in
theorem lx_three (B : Nat) (s m : ByteArray) (W : World) (hc : W.cell? ⟨B, 0, none⟩ = some (.string s)) : Calls Tryd.prog 36 #[.string m, .pointer (some ⟨B, 0, none⟩)] W fun e w' => e = .returned (.bool (Lib.hasPrefix s.data.toList m.data.toList)) ∧ w' = W := by
  go_enter Tryd.func36, Tryd.ntmps36
  go_wp2_with fail
  refine (Tryd.strings_HasPrefix s m W).mono ?_
  rintro e w' ⟨rfl, rfl⟩
  obtain ⟨r, hr⟩ : ∃ r, r = Lib.hasPrefix s.data.toList m.data.toList := ⟨_, rfl⟩
  rw [← hr]
  go_wp2_with fail
  go_ret
  exact ⟨rfl, rfl⟩
def lx_at (s : ByteArray) : Nat → Nat → Int
  | 0, _ => -1
  | n + 1, i => if Lib.hasPrefix s.data.toList (lx_marks.getD i ByteArray.empty).data.toList = true then (i : Int) else lx_at s n (i + 1)
set_option maxRecDepth 100000 in
theorem lx_if (B b : Nat) (s : ByteArray) (w : World) (hc : w.cell? ⟨B, 0, none⟩ = some (.string s)) (hm : ∀ j, j < 12 → w.cell? ⟨b, j, none⟩ = some (.string (lx_marks.getD j ByteArray.empty))) :
    Calls Tryd.prog 34 #[.slice (some ⟨b, 0, none⟩) 12 12, .func (.func 36) #[] #[.pointer (some ⟨B, 0, none⟩)]] w fun e w' => e = .returned (.int .i64 (lx_at s 12 0)) ∧ w' = w := by
  have e36 : ∀ args w, (callFunc 36 args).run Tryd.prog w = .ok (.enter 36 args) w := enters_of Tryd.func36 (by kernel_rfl) rfl
  have hM := Aside0.mk hm
  have hI := Aside0.mk (fun m => lx_three B s m w hc)
  have h0 := Aside0.mk (rfl : lx_at s 12 0 = lx_at s 12 0)
  obtain ⟨T, hT⟩ : ∃ T, T = lx_at s 12 0 := ⟨_, rfl⟩
  rw [← hT]
  have HT := Aside0.mk hT
  clear hc hm hT
  go_enter Tryd.func34, Tryd.ntmps34
  go_wp2
  go_loopg [8] 12 (fun kq v8 wx => ∃ i : Nat, v8 = .int .i64 (i : Int) ∧ Aside0 (i + kq = 12) ∧ Aside0 (T = lx_at s kq i) ∧ wx = w)
  case atStart => exact ⟨0, rfl, ⟨rfl⟩, HT, rfl⟩
  case round =>
    obtain ⟨i, rfl, hk, HA, rfl⟩ := hrel
    by_cases c : i < 12
    · obtain ⟨M, hMe⟩ : ∃ M, M = lx_marks.getD i ByteArray.empty := ⟨_, rfl⟩
      have hcell := hM.out i c
      rw [← hMe] at hcell
      obtain ⟨g', hg⟩ : ∃ g', gk = g' + 1 := ⟨gk - 1, by have := hk.out; omega⟩
      have HA' := HA.out
      rw [hg] at HA'
      simp only [lx_at] at HA'
      rw [← hMe] at HA'
      have HG := Aside0.mk hg
      have cI : decide ((i : Int) < 12) = true := decide_eq_true (by omega)
      have p1 : 0 ≤ (i : Int) := by omega
      have p2 : (i : Int) < 12 := by omega
      clear hg hMe HA
      cases hh : Lib.hasPrefix s.data.toList M.data.toList with
      | true =>
        rw [hh, if_pos rfl] at HA'
        subst HA'
        have HH := Aside0.mk hh
        clear hh c
        go_wp2_with (go_at_fn 36; refine (hI.out M).mono ?_; rintro e w' ⟨rfl, rfl⟩; rw [HH.out])
        go_ret
        exact ⟨rfl, rfl⟩
      | false =>
        rw [hh, if_neg (by simp)] at HA'
        have HA2 := Aside0.mk HA'
        have HH := Aside0.mk hh
        clear hh c HA'
        go_wp2_with (go_at_fn 36; refine (hI.out M).mono ?_; rintro e w' ⟨rfl, rfl⟩; rw [HH.out])
        go_roundg g'
        case measure => have := HG.out; omega
        case rel => exact ⟨i + 1, (by first | rfl | (congr 1)), ⟨by have := HG.out; have := hk.out; omega⟩, HA2, rfl⟩
    · have cI : decide ((i : Int) < 12) = false := decide_eq_false (by omega)
      have hz : gk = 0 := by have := hk.out; omega
      have HA' := HA.out
      rw [hz] at HA'
      simp only [lx_at] at HA'
      subst HA'
      clear hz c HA
      go_wp2
      go_ret
      exact ⟨rfl, rfl⟩
theorem lx_bcell {W w1 : World} (hb : Below W.heap.size W w1) : (∀ b o, b < W.heap.size → w1.cell? ⟨b, o, none⟩ = W.cell? ⟨b, o, none⟩) ∧ (∀ b o, b < W.heap.size → w1.frozen? ⟨b, o, none⟩ = W.frozen? ⟨b, o, none⟩) :=
  ⟨fun b o h => hb.cell (p := ⟨b, o, none⟩) h, fun b o h => hb.frozen (p := ⟨b, o, none⟩) h⟩
def LxOut (w : World) (k : Int) (t : ByteArray) (n : Int) (e : Ending) (w' : World) : Prop := e = .returned (.tuple #[.agg #[.int .i64 k, .string t, .int .i64 0], .int .i64 n]) ∧ Below w.heap.size w w'
theorem lx_blk3 {w2 : World} {g : Nat} {x y z : Value} (h : w2.heap[g]? = some (.cells #[x, y, z] 35 (0, 0))) (a b c : Value) :
    (((w2.setCell ⟨g, 0, none⟩ a).setCell ⟨g, 1, none⟩ b).setCell ⟨g, 2, none⟩ c).heap[g]? = some (.cells #[a, b, c] 35 (0, 0)) :=
  blk_put (cs := #[a, b, z]) (blk_put (cs := #[a, y, z]) (blk_put (cs := #[x, y, z]) h 0 _ rfl) 1 _ rfl) 2 _ rfl
theorem lx_low3 {w w2 : World} {g : Nat} (h : Below w.heap.size w w2) (hg : w.heap.size ≤ g) (a b c : Value) :
    Below w.heap.size w (((w2.setCell ⟨g, 0, none⟩ a).setCell ⟨g, 1, none⟩ b).setCell ⟨g, 2, none⟩ c) := below_set (below_set (below_set h hg) hg) hg
def lx_w0 (w : World) (s : ByteArray) : World := (w.alloc (.cells #[.string s] 9)).alloc (.cells #[.int .i64 0, .string ⟨#[]⟩, .int .i64 0] 35)
theorem lx_w0_size (w : World) (s : ByteArray) : (lx_w0 w s).heap.size = w.heap.size + 2 := by simp [lx_w0]
theorem lx_w0_low (w : World) (s : ByteArray) : Below w.heap.size w (lx_w0 w s) := below_alloc (below_alloc (Below.refl _ _) _) _
theorem lx_w0_blk (w : World) (s : ByteArray) : (lx_w0 w s).heap[w.heap.size + 1]? = some (.cells #[.int .i64 0, .string ⟨#[]⟩, .int .i64 0] 35 (0, 0)) := by
  have := heap_alloc_new (w.alloc (.cells #[.string s] 9)) (.cells #[.int .i64 0, .string ⟨#[]⟩, .int .i64 0] 35)
  simpa [lx_w0] using this
structure LxW (w : World) (s : ByteArray) (w2 : World) : Prop where
  low : Below w.heap.size w w2
  blk : w2.heap[w.heap.size + 1]? = some (.cells #[.int .i64 0, .string ⟨#[]⟩, .int .i64 0] 35 (0, 0))
  box : w2.cell? ⟨w.heap.size, 0, none⟩ = some (.string s)
  big : w.heap.size + 2 ≤ w2.heap.size
theorem LxW.start (w : World) (s : ByteArray) : LxW w s (lx_w0 w s) :=
  ⟨lx_w0_low w s, lx_w0_blk w s, by
    have h1 : (lx_w0 w s).heap[w.heap.size]? = some (.cells #[.string s] 9 (0, 0)) := blk_alloc (heap_alloc_new w _) _
    exact (blk_cell h1 0).trans rfl, by rw [lx_w0_size]; omega⟩
theorem LxW.next {w : World} {s : ByteArray} {w2 w3 : World} (h : LxW w s w2) (hb : Below w2.heap.size w2 w3) : LxW w s w3 :=
  ⟨h.low.trans (hb.mono h.low.size), (hb.block _ (by have := h.big; omega)).trans h.blk, (hb.cell (p := ⟨w.heap.size, 0, none⟩) (by have := h.big; show w.heap.size < _; omega)).trans h.box, Nat.le_trans h.big hb.size⟩
set_option maxRecDepth 100000 in
set_option maxHeartbeats 1000000 in
theorem lx_one_L (s : ByteArray) (w : World) (h0 : 0 < s.size) (hL : lx_pL ((s[0]'h0).toNat : Int) = true) (n : Nat) (hn : n ≤ s.size) (hlen : ∀ W, Calls Tryd.prog 28 #[.string s, .func (.func 29) #[] #[]] W fun e w' => e = .returned (.int .i64 (n : Int)) ∧ Below W.heap.size W w') (h20 : n ≤ 20) :
    Calls Tryd.prog 17 #[.string s] w (LxOut w 0 (s.extract 0 n) n) := by
  have hu35 := Tryd.underlying35
  have HL := Aside0.mk hL
  have p1 : (n : Int) ≤ 20 := by omega
  have p2 : 0 ≤ (n : Int) := by omega
  have p3 : (n : Int) ≤ (s.size : Int) := by omega
  have hw : wrap32 ((s[0]'h0).toNat : Int) = ((s[0]'h0).toNat : Int) := by have := (s[0]'h0).toNat_lt; unfold wrap32; omega
  clear hL
  go_enter Tryd.func17, Tryd.ntmps17
  go_wp2_with fail
  refine (lx_let _ _).mono ?_
  rintro e w2 ⟨rfl, rfl⟩
  rw [HL.out]
  go_wp2_with fail
  refine (hlen _).mono ?_
  rintro e w2 ⟨rfl, hb⟩
  obtain ⟨hc, hf⟩ := lx_bcell hb
  have hz := hb.size
  simp only [World.size_alloc] at hz
  have HW := (LxW.start w s).next hb
  have HW' := Aside0.mk HW
  clear HW hb
  go_wp2_with fail
  refine bodyPost_ret (results_ct rfl _ _ (w.heap.size + 1) 35 #[.int .i64 0, .string (s.extract 0 n), .int .i64 0] (0, 0) _ rfl (lx_blk3 HW'.out.blk _ _ _) Tryd.underlying35 rfl (by kernel_rfl)) rfl ?_
  exact ⟨rfl, lx_low3 HW'.out.low (by omega) _ _ _⟩
theorem LxW.facts {w : World} {s : ByteArray} {w2 : World} (h : LxW w s w2) : w2.cell? ⟨w.heap.size + 1, 0, none⟩ = some (.int .i64 0) ∧ w2.cell? ⟨w.heap.size + 1, 1, none⟩ = some (.string ⟨#[]⟩) ∧ w2.cell? ⟨w.heap.size + 1, 2, none⟩ = some (.int .i64 0) ∧
    w2.frozen? ⟨w.heap.size + 1, 0, none⟩ = false ∧ w2.frozen? ⟨w.heap.size + 1, 1, none⟩ = false ∧ w2.frozen? ⟨w.heap.size + 1, 2, none⟩ = false :=
  ⟨(blk_cell h.blk 0).trans rfl, (blk_cell h.blk 1).trans rfl, (blk_cell h.blk 2).trans rfl, blk_frozen h.blk 0, blk_frozen h.blk 1, blk_frozen h.blk 2⟩
theorem lx_wrap (s : ByteArray) (h0 : 0 < s.size) : wrap32 ((s[0]'h0).toNat : Int) = ((s[0]'h0).toNat : Int) := by have := (s[0]'h0).toNat_lt; unfold wrap32; omega
set_option maxRecDepth 100000 in
set_option maxHeartbeats 1000000 in
theorem lx_one_L2 (s : ByteArray) (w : World) (h0 : 0 < s.size) (hL : lx_pL ((s[0]'h0).toNat : Int) = true) (n : Nat) (hn : n ≤ s.size) (hlen : ∀ W, Calls Tryd.prog 28 #[.string s, .func (.func 29) #[] #[]] W fun e w' => e = .returned (.int .i64 (n : Int)) ∧ Below W.heap.size W w') (h20 : 20 < n) :
    Calls Tryd.prog 17 #[.string s] w (LxOut w 0 ⟨#[]⟩ 0) := by
  have hu35 := Tryd.underlying35
  have HL := Aside0.mk hL
  have p1 : 20 < (n : Int) := by omega
  have p2 : 0 ≤ (n : Int) := by omega
  have hw := lx_wrap s h0
  clear hL
  go_enter Tryd.func17, Tryd.ntmps17
  go_wp2_with fail
  refine (lx_let _ _).mono ?_
  rintro e w2 ⟨rfl, rfl⟩
  rw [HL.out]
  go_wp2_with fail
  refine (hlen _).mono ?_
  rintro e w2 ⟨rfl, hb⟩
  have HW' := Aside0.mk ((LxW.start w s).next hb)
  clear hb
  obtain ⟨c0, c1, c2, f0, f1, f2⟩ := HW'.out.facts
  go_wp2_with fail
  refine bodyPost_ret (results_ct rfl _ _ (w.heap.size + 1) 35 #[.int .i64 0, .string ⟨#[]⟩, .int .i64 0] (0, 0) _ rfl (lx_blk3 HW'.out.blk _ _ _) Tryd.underlying35 rfl (by kernel_rfl)) rfl ?_
  exact ⟨rfl, lx_low3 HW'.out.low (by omega) _ _ _⟩
set_option maxRecDepth 100000 in
set_option maxHeartbeats 1000000 in
theorem lx_one_F (s : ByteArray) (w : World) (h0 : 0 < s.size) (hL : lx_pL ((s[0]'h0).toNat : Int) = false) (hF : lx_pF ((s[0]'h0).toNat : Int) = true) (n : Nat) (hn : n ≤ s.size) (hlen : ∀ W, Calls Tryd.prog 28 #[.string s, .func (.func 31) #[] #[]] W fun e w' => e = .returned (.int .i64 (n : Int)) ∧ Below W.heap.size W w') (h19 : n ≤ 19) :
    Calls Tryd.prog 17 #[.string s] w (LxOut w 1 (s.extract 0 n) n) := by
  have hu35 := Tryd.underlying35
  have HL := Aside0.mk hL
  have HF := Aside0.mk hF
  have p1 : (n : Int) ≤ 19 := by omega
  have p2 : 0 ≤ (n : Int) := by omega
  have p3 : (n : Int) ≤ (s.size : Int) := by omega
  have hw := lx_wrap s h0
  have hcr := Aside0.mk (fun W => lx_cr ((s[0]'h0).toNat : Int) W (by omega) (by have := (s[0]'h0).toNat_lt; omega))
  clear hL hF
  go_enter Tryd.func17, Tryd.ntmps17
  go_wp2_with fail
  refine (lx_let _ _).mono ?_
  rintro e w2 ⟨rfl, rfl⟩
  rw [HL.out]
  go_wp2_with fail
  refine (hcr.out _).mono ?_
  rintro e w2 ⟨rfl, hb⟩
  rw [HF.out]
  have HW := Aside0.mk ((LxW.start w s).next hb)
  have hc := HW.out.box
  clear hb
  go_wp2_with fail
  refine (hlen _).mono ?_
  rintro e w3 ⟨rfl, hb⟩
  have HW' := Aside0.mk (HW.out.next hb)
  have hc := HW'.out.box
  clear hb
  obtain ⟨c0, c1, c2, f0, f1, f2⟩ := HW'.out.facts
  go_wp2_with fail
  refine bodyPost_ret (results_ct rfl _ _ (w.heap.size + 1) 35 #[.int .i64 1, .string (s.extract 0 n), .int .i64 0] (0, 0) _ rfl (lx_blk3 HW'.out.blk _ _ _) Tryd.underlying35 rfl (by kernel_rfl)) rfl ?_
  exact ⟨rfl, lx_low3 HW'.out.low (by omega) _ _ _⟩
set_option maxRecDepth 100000 in
set_option maxHeartbeats 1000000 in
theorem lx_one_F2 (s : ByteArray) (w : World) (h0 : 0 < s.size) (hL : lx_pL ((s[0]'h0).toNat : Int) = false) (hF : lx_pF ((s[0]'h0).toNat : Int) = true) (n : Nat) (hn : n ≤ s.size) (hlen : ∀ W, Calls Tryd.prog 28 #[.string s, .func (.func 31) #[] #[]] W fun e w' => e = .returned (.int .i64 (n : Int)) ∧ Below W.heap.size W w') (h19 : 19 < n) :
    Calls Tryd.prog 17 #[.string s] w (LxOut w 0 ⟨#[]⟩ 0) := by
  have hu35 := Tryd.underlying35
  have HL := Aside0.mk hL
  have HF := Aside0.mk hF
  have p1 : 19 < (n : Int) := by omega
  have p2 : 0 ≤ (n : Int) := by omega
  have hw := lx_wrap s h0
  have hcr := Aside0.mk (fun W => lx_cr ((s[0]'h0).toNat : Int) W (by omega) (by have := (s[0]'h0).toNat_lt; omega))
  clear hL hF
  go_enter Tryd.func17, Tryd.ntmps17
  go_wp2_with fail
  refine (lx_let _ _).mono ?_
  rintro e w2 ⟨rfl, rfl⟩
  rw [HL.out]
  go_wp2_with fail
  refine (hcr.out _).mono ?_
  rintro e w2 ⟨rfl, hb⟩
  rw [HF.out]
  have HW := Aside0.mk ((LxW.start w s).next hb)
  have hc := HW.out.box
  clear hb
  go_wp2_with fail
  refine (hlen _).mono ?_
  rintro e w3 ⟨rfl, hb⟩
  have HW' := Aside0.mk (HW.out.next hb)
  clear hb
  obtain ⟨c0, c1, c2, f0, f1, f2⟩ := HW'.out.facts
  go_wp2_with fail
  refine bodyPost_ret (results_ct rfl _ _ (w.heap.size + 1) 35 #[.int .i64 0, .string ⟨#[]⟩, .int .i64 0] (0, 0) _ rfl (lx_blk3 HW'.out.blk _ _ _) Tryd.underlying35 rfl (by kernel_rfl)) rfl ?_
  exact ⟨rfl, lx_low3 HW'.out.low (by omega) _ _ _⟩
set_option maxRecDepth 100000 in
set_option maxHeartbeats 1000000 in
theorem lx_one_Q (s t : ByteArray) (n : Int) (w : World) (h0 : 0 < s.size) (hL : lx_pL ((s[0]'h0).toNat : Int) = false) (hF : lx_pF ((s[0]'h0).toNat : Int) = false) (hq : Lib.hasPrefix s.data.toList [39] = true) (hG : Go.Proofs.YtngeelpfbajppaaDoor.Bs.Gl w) (hquo : ∀ W, Go.Proofs.YtngeelpfbajppaaDoor.Bs.Gl W → Calls Tryd.prog 33 #[.string s] W fun e w' => e = .returned (.tuple #[.string t, .int .i64 n]) ∧ Below W.heap.size W w') (h200 : t.size ≤ 200) :
    Calls Tryd.prog 17 #[.string s] w (LxOut w 2 t n) := by
  have hu35 := Tryd.underlying35
  have HL := Aside0.mk hL
  have HF := Aside0.mk hF
  have HQ := Aside0.mk hq
  have HG := Aside0.mk hG
  have p1 : (t.size : Int) ≤ 200 := by omega
  have hw := lx_wrap s h0
  have hcr := Aside0.mk (fun W => lx_cr ((s[0]'h0).toNat : Int) W (by omega) (by have := (s[0]'h0).toNat_lt; omega))
  clear hL hF hq hG
  go_enter Tryd.func17, Tryd.ntmps17
  go_wp2_with fail
  refine (lx_let _ _).mono ?_
  rintro e w2 ⟨rfl, rfl⟩
  rw [HL.out]
  go_wp2_with fail
  refine (hcr.out _).mono ?_
  rintro e w2 ⟨rfl, hb⟩
  rw [HF.out]
  have HW := Aside0.mk ((LxW.start w s).next hb)
  have hc := HW.out.box
  clear hb
  go_wp2_with fail
  refine (Tryd.strings_HasPrefix s ⟨#[39]⟩ _).mono ?_
  rintro e w3 ⟨rfl, rfl⟩
  rw [show Lib.hasPrefix s.data.toList (⟨#[39]⟩ : ByteArray).data.toList = true from HQ.out]
  go_wp2_with fail
  refine (hquo _ (HG.out.below HW.out.low)).mono ?_
  rintro e w4 ⟨rfl, hb⟩
  have HW' := Aside0.mk (HW.out.next hb)
  clear hb
  obtain ⟨c0, c1, c2, f0, f1, f2⟩ := HW'.out.facts
  go_wp2_with fail
  refine bodyPost_ret (results_ct rfl _ _ (w.heap.size + 1) 35 #[.int .i64 2, .string t, .int .i64 0] (0, 0) _ rfl (lx_blk3 HW'.out.blk _ _ _) Tryd.underlying35 rfl (by kernel_rfl)) rfl ?_
  exact ⟨rfl, lx_low3 HW'.out.low (by omega) _ _ _⟩
theorem LxW.drew {w : World} {s : ByteArray} {w2 : World} (h : LxW w s w2) : LxW w s w2.drew := h.next ((Below.refl _ _).drew)
theorem lx_mk2 (w : World) (s M : ByteArray) (i : Nat) (hi : i < 12) (hM : lx_marks.getD i ByteArray.empty = M) (W : World) (HW : LxW w s W) :
    Calls Tryd.prog 35 #[] W fun e w' => ∃ b, e = .returned (.slice (some ⟨b, 0, none⟩) 12 12) ∧ LxW w s w' ∧ (b ≠ w.heap.size + 1 ∧ w.heap.size + 1 ≠ b) ∧ b < w'.heap.size ∧ w'.cell? ⟨b, i, none⟩ = some (.string M) ∧ Below W.heap.size W w' :=
  (lx_mk W).mono fun e w' ⟨b, h1, h2, h3, h4, h5⟩ => ⟨b, h1, HW.next h5, ⟨by have := HW.big; omega, by have := HW.big; omega⟩, h3, by rw [← hM]; exact h4 i hi, h5⟩
set_option maxRecDepth 100000 in
set_option maxHeartbeats 4000000 in
theorem lx_one_M (s M : ByteArray) (i : Nat) (w : World) (h0 : 0 < s.size) (hL : lx_pL ((s[0]'h0).toNat : Int) = false) (hF : lx_pF ((s[0]'h0).toNat : Int) = false) (hq : Lib.hasPrefix s.data.toList [39] = false) (hi : i < 12) (hM : lx_marks.getD i ByteArray.empty = M) (hat : lx_at s 12 0 = (i : Int)) :
    Calls Tryd.prog 17 #[.string s] w (LxOut w 3 M M.size) := by
  have hu35 := Tryd.underlying35
  have HL := Aside0.mk hL
  have HF := Aside0.mk hF
  have HQ := Aside0.mk hq
  have HAT := Aside0.mk hat
  have HM := Aside0.mk hM
  have p1 : (i : Int) < 12 := by omega
  have p2 : 0 ≤ (i : Int) := by omega
  have hw := lx_wrap s h0
  have hcr := Aside0.mk (fun W => lx_cr ((s[0]'h0).toNat : Int) W (by omega) (by have := (s[0]'h0).toNat_lt; omega))
  clear hL hF hq hat hM
  go_enter Tryd.func17, Tryd.ntmps17
  go_wp2_with fail
  refine (lx_let _ _).mono ?_
  rintro e w2 ⟨rfl, rfl⟩
  rw [HL.out]
  go_wp2_with fail
  refine (hcr.out _).mono ?_
  rintro e w2 ⟨rfl, hb⟩
  rw [HF.out]
  have HW := Aside0.mk ((LxW.start w s).next hb)
  have hc := HW.out.box
  clear hb
  go_wp2_with fail
  refine (Tryd.strings_HasPrefix s ⟨#[39]⟩ _).mono ?_
  rintro e w3 ⟨rfl, rfl⟩
  rw [show Lib.hasPrefix s.data.toList (⟨#[39]⟩ : ByteArray).data.toList = false from HQ.out]
  go_wp2_with fail
  refine (lx_mk _).mono ?_
  rintro e w4 ⟨b, rfl, hb1, hb2, hb3, hb4⟩
  have HW4 := Aside0.mk (HW.out.next hb4)
  have hc4 := HW4.out.box
  have HB3 := Aside0.mk hb3
  clear hb4 hb1 hb2 hb3 hc
  go_wp2_with fail
  refine (lx_if w.heap.size b s w4 HW4.out.box HB3.out).mono ?_
  rintro e w5 ⟨rfl, rfl⟩
  rw [HAT.out]
  go_wp2_with fail
  have HW5 := HW4.out
  have HMK := Aside0.mk (lx_mk2 w s M i (by omega) HM.out)
  clear HW4 hc4
  refine start_ (n := 12) (S := fun w' => True) (ds := []) #[false, false, false, false, false, false, false, false, false, false, false, false] (by kernel_rfl) rfl rfl trivial (fun hHeld => ?_)
  refine pure_ (i := 1) (N := some 58) (v := ?_) (a' := ?_) #[false, true, false, false, false, false, false, false, false, false, false, false] rfl rfl (by kernel_rfl) (fun _ _ _ h => h) (Or.inl ⟨by rfl, ?_⟩) ?_ ?_
  rotate_left
  · intro w'
    go_simp
    with_reducible rfl
  rotate_left
  · simp only [Act.put, List.setIfInBounds_toArray, List.set_cons_zero, List.set_cons_succ]
    rfl
  refine pure_ (i := 6) (N := some 63) (v := ?_) (a' := ?_) #[false, true, false, false, false, false, true, false, false, false, false, false] rfl rfl (by kernel_rfl) (fun _ _ _ h => h) (Or.inl ⟨by rfl, ?_⟩) ?_ ?_
  rotate_left
  · intro w'
    go_simp
    with_reducible rfl
  rotate_left
  · simp only [Act.put, List.setIfInBounds_toArray, List.set_cons_zero, List.set_cons_succ]
    rfl
  refine one_ (i := 0) (N := some 57) #[true, true, false, false, false, false, true, false, false, false, false, false] rfl rfl (by kernel_rfl) (by decide) (fun K hK => ?_)
  refine goes_ Tryd.func35 (by kernel_rfl) rfl #[] (by rfl) rfl rfl (by first | done | rfl | simp) ?_
  refine (HMK.out _ HW5.drew).mono ?_
  rintro e w6 ⟨b6, rfl, hW6, ⟨hb0, hb1⟩, hb2, hm6, hb4⟩
  obtain ⟨c0, c1, c2, f0, f1, f2⟩ := hW6.facts
  obtain ⟨hc, hf⟩ := lx_bcell hb4
  have hb26 := hb2
  refine ⟨_, rfl, ?_⟩
  refine hK.out _ _ trivial (fun hHeld => ?_)
  clear hK K
  refine norm_ (a' := ?_) ?_ ?_
  rotate_left
  · show Act.put _ (some 57) _ = _
    simp only [Act.put, List.setIfInBounds_toArray, List.set_cons_zero, List.set_cons_succ]
    rfl
  refine pure_ (i := 2) (N := some 59) (v := ?_) (a' := ?_) #[true, true, true, false, false, false, true, false, false, false, false, false] rfl rfl (by kernel_rfl) (fun _ _ _ h => h) (Or.inl ⟨by rfl, ?_⟩) ?_ ?_
  rotate_left
  · intro w'
    go_simp
    with_reducible rfl
  rotate_left
  · simp only [Act.put, List.setIfInBounds_toArray, List.set_cons_zero, List.set_cons_succ]
    rfl
  refine two_ (i := 3) (j := 5) (Ni := some 60) (Nj := some 62) #[true, true, true, true, false, false, true, false, false, false, false, false] #[true, true, true, false, false, true, true, false, false, false, false, false] rfl rfl rfl rfl (by kernel_rfl) (by decide) (by decide) (fun K hK => ?_) (fun K hK => ?_)
  · refine value_ (w1 := ?_) (v := ?_) (by rfl) rfl ?_ ?_
    rotate_left 2
    · go_simp
      constructor
      · rfl
      · rfl
    refine hK.out _ _ trivial (fun hHeld => ?_)
    clear hK K
    refine norm_ (a' := ?_) ?_ ?_
    rotate_left
    · show Act.put _ (some 60) _ = _
      simp only [Act.put, List.setIfInBounds_toArray, List.set_cons_zero, List.set_cons_succ]
      rfl
    refine pure_ (i := 4) (N := some 61) (v := ?_) (a' := ?_) #[true, true, true, true, true, false, true, false, false, false, false, false] rfl rfl (by kernel_rfl) (fun _ _ _ h => h) (Or.inl ⟨by rfl, ?_⟩) ?_ ?_
    rotate_left
    · intro w'
      go_simp
      with_reducible rfl
    rotate_left
    · simp only [Act.put, List.setIfInBounds_toArray, List.set_cons_zero, List.set_cons_succ]
      rfl
    refine one_ (i := 5) (N := some 62) #[true, true, true, true, true, true, true, false, false, false, false, false] rfl rfl (by kernel_rfl) (by decide) (fun K hK => ?_)
    refine goes_ Tryd.func35 (by kernel_rfl) rfl #[] (by rfl) rfl rfl (by first | done | rfl | simp) ?_
    refine (HMK.out _ hW6).mono ?_
    rintro e w7 ⟨b7, rfl, hW7, ⟨hb0, hb1⟩, hb2, hm7, hb4⟩
    obtain ⟨c0, c1, c2, f0, f1, f2⟩ := hW7.facts
    obtain ⟨hc, hf⟩ := lx_bcell hb4
    have hm6' := (hc b6 i hb26).trans hm6
    refine ⟨_, rfl, ?_⟩
    refine hK.out _ _ trivial (fun hHeld => ?_)
    clear hK K
    refine norm_ (a' := ?_) ?_ ?_
    rotate_left
    · show Act.put _ (some 62) _ = _
      simp only [Act.put, List.setIfInBounds_toArray, List.set_cons_zero, List.set_cons_succ]
      rfl
    refine pure_ (i := 7) (N := some 64) (v := ?_) (a' := ?_) #[true, true, true, true, true, true, true, true, false, false, false, false] rfl rfl (by kernel_rfl) (fun _ _ _ h => h) (Or.inl ⟨by rfl, ?_⟩) ?_ ?_
    rotate_left
    · intro w'
      go_simp
      with_reducible rfl
    rotate_left
    · simp only [Act.put, List.setIfInBounds_toArray, List.set_cons_zero, List.set_cons_succ]
      rfl
    refine two_ (i := 8) (j := 10) (Ni := some 65) (Nj := none) #[true, true, true, true, true, true, true, true, true, false, false, false] #[true, true, true, true, true, true, true, true, false, false, true, false] rfl rfl rfl rfl (by kernel_rfl) (by decide) (by decide) (fun K hK => ?_) (fun K hK => ?_)
    · refine value_ (w1 := ?_) (v := ?_) (by rfl) rfl ?_ ?_
      rotate_left 2
      · go_simp
        constructor
        · rfl
        · rfl
      refine hK.out _ _ trivial (fun hHeld => ?_)
      clear hK K
      refine norm_ (a' := ?_) ?_ ?_
      rotate_left
      · show Act.put _ (some 65) _ = _
        simp only [Act.put, List.setIfInBounds_toArray, List.set_cons_zero, List.set_cons_succ]
        rfl
      refine pure_ (i := 9) (N := some 66) (v := ?_) (a' := ?_) #[true, true, true, true, true, true, true, true, true, true, false, false] rfl rfl (by kernel_rfl) (fun _ _ _ h => h) (Or.inl ⟨by rfl, ?_⟩) ?_ ?_
      rotate_left
      · intro w'
        go_simp
        with_reducible rfl
      rotate_left
      · simp only [Act.put, List.setIfInBounds_toArray, List.set_cons_zero, List.set_cons_succ]
        rfl
      refine one_ (i := 10) (N := none) #[true, true, true, true, true, true, true, true, true, true, true, false] rfl rfl (by kernel_rfl) (by decide) (fun K hK => ?_)
      refine skip_ (w1 := ?_) (by rfl) rfl ?_ ?_
      rotate_left
      · go_simp
        rfl
      refine hK.out _ _ trivial (fun hHeld => ?_)
      clear hK K
      refine pure_ (i := 11) (N := some 3) (v := ?_) (a' := ?_) #[true, true, true, true, true, true, true, true, true, true, true, true] rfl rfl (by kernel_rfl) (fun _ _ _ h => h) (Or.inl ⟨by rfl, ?_⟩) ?_ ?_
      rotate_left
      · intro w'
        go_simp
        with_reducible rfl
      rotate_left
      · simp only [Act.put, List.setIfInBounds_toArray, List.set_cons_zero, List.set_cons_succ]
        rfl
      refine done_ (by kernel_rfl) ?_
      go_wp2_with fail
      refine bodyPost_ret (results_ct rfl _ _ (w.heap.size + 1) 35 #[.int .i64 3, .string M, .int .i64 0] (0, 0) _ rfl (lx_blk3 hW7.blk _ _ _) Tryd.underlying35 rfl (by kernel_rfl)) rfl ?_
      exact ⟨rfl, lx_low3 hW7.low (by omega) _ _ _⟩
    · refine skip_ (w1 := ?_) (by rfl) rfl ?_ ?_
      rotate_left
      · go_simp
        rfl
      refine hK.out _ _ trivial (fun hHeld => ?_)
      clear hK K
      refine one_ (i := 8) (N := some 65) #[true, true, true, true, true, true, true, true, true, false, true, false] rfl rfl (by kernel_rfl) (by decide) (fun K hK => ?_)
      refine value_ (w1 := ?_) (v := ?_) (by rfl) rfl ?_ ?_
      rotate_left 2
      · go_simp
        constructor
        · rfl
        · rfl
      refine hK.out _ _ trivial (fun hHeld => ?_)
      clear hK K
      refine norm_ (a' := ?_) ?_ ?_
      rotate_left
      · show Act.put _ (some 65) _ = _
        simp only [Act.put, List.setIfInBounds_toArray, List.set_cons_zero, List.set_cons_succ]
        rfl
      refine pure_ (i := 9) (N := some 66) (v := ?_) (a' := ?_) #[true, true, true, true, true, true, true, true, true, true, true, false] rfl rfl (by kernel_rfl) (fun _ _ _ h => h) (Or.inl ⟨by rfl, ?_⟩) ?_ ?_
      rotate_left
      · intro w'
        go_simp
        with_reducible rfl
      rotate_left
      · simp only [Act.put, List.setIfInBounds_toArray, List.set_cons_zero, List.set_cons_succ]
        rfl
      refine pure_ (i := 11) (N := some 3) (v := ?_) (a' := ?_) #[true, true, true, true, true, true, true, true, true, true, true, true] rfl rfl (by kernel_rfl) (fun _ _ _ h => h) (Or.inl ⟨by rfl, ?_⟩) ?_ ?_
      rotate_left
      · intro w'
        go_simp
        with_reducible rfl
      rotate_left
      · simp only [Act.put, List.setIfInBounds_toArray, List.set_cons_zero, List.set_cons_succ]
        rfl
      refine done_ (by kernel_rfl) ?_
      go_wp2_with fail
      refine bodyPost_ret (results_ct rfl _ _ (w.heap.size + 1) 35 #[.int .i64 3, .string M, .int .i64 0] (0, 0) _ rfl (lx_blk3 hW7.blk _ _ _) Tryd.underlying35 rfl (by kernel_rfl)) rfl ?_
      exact ⟨rfl, lx_low3 hW7.low (by omega) _ _ _⟩
  · refine goes_ Tryd.func35 (by kernel_rfl) rfl #[] (by rfl) rfl rfl (by first | done | rfl | simp) ?_
    refine (HMK.out _ hW6).mono ?_
    rintro e w7 ⟨b7, rfl, hW7, ⟨hb0, hb1⟩, hb2, hm7, hb4⟩
    obtain ⟨c0, c1, c2, f0, f1, f2⟩ := hW7.facts
    obtain ⟨hc, hf⟩ := lx_bcell hb4
    have hm6' := (hc b6 i hb26).trans hm6
    refine ⟨_, rfl, ?_⟩
    refine hK.out _ _ trivial (fun hHeld => ?_)
    clear hK K
    refine norm_ (a' := ?_) ?_ ?_
    rotate_left
    · show Act.put _ (some 62) _ = _
      simp only [Act.put, List.setIfInBounds_toArray, List.set_cons_zero, List.set_cons_succ]
      rfl
    refine pure_ (i := 7) (N := some 64) (v := ?_) (a' := ?_) #[true, true, true, false, false, true, true, true, false, false, false, false] rfl rfl (by kernel_rfl) (fun _ _ _ h => h) (Or.inl ⟨by rfl, ?_⟩) ?_ ?_
    rotate_left
    · intro w'
      go_simp
      with_reducible rfl
    rotate_left
    · simp only [Act.put, List.setIfInBounds_toArray, List.set_cons_zero, List.set_cons_succ]
      rfl
    refine two_ (i := 3) (j := 8) (Ni := some 60) (Nj := some 65) #[true, true, true, true, false, true, true, true, false, false, false, false] #[true, true, true, false, false, true, true, true, true, false, false, false] rfl rfl rfl rfl (by kernel_rfl) (by decide) (by decide) (fun K hK => ?_) (fun K hK => ?_)
    · refine value_ (w1 := ?_) (v := ?_) (by rfl) rfl ?_ ?_
      rotate_left 2
      · go_simp
        constructor
        · rfl
        · rfl
      refine hK.out _ _ trivial (fun hHeld => ?_)
      clear hK K
      refine norm_ (a' := ?_) ?_ ?_
      rotate_left
      · show Act.put _ (some 60) _ = _
        simp only [Act.put, List.setIfInBounds_toArray, List.set_cons_zero, List.set_cons_succ]
        rfl
      refine pure_ (i := 4) (N := some 61) (v := ?_) (a' := ?_) #[true, true, true, true, true, true, true, true, false, false, false, false] rfl rfl (by kernel_rfl) (fun _ _ _ h => h) (Or.inl ⟨by rfl, ?_⟩) ?_ ?_
      rotate_left
      · intro w'
        go_simp
        with_reducible rfl
      rotate_left
      · simp only [Act.put, List.setIfInBounds_toArray, List.set_cons_zero, List.set_cons_succ]
        rfl
      refine two_ (i := 8) (j := 10) (Ni := some 65) (Nj := none) #[true, true, true, true, true, true, true, true, true, false, false, false] #[true, true, true, true, true, true, true, true, false, false, true, false] rfl rfl rfl rfl (by kernel_rfl) (by decide) (by decide) (fun K hK => ?_) (fun K hK => ?_)
      · refine value_ (w1 := ?_) (v := ?_) (by rfl) rfl ?_ ?_
        rotate_left 2
        · go_simp
          constructor
          · rfl
          · rfl
        refine hK.out _ _ trivial (fun hHeld => ?_)
        clear hK K
        refine norm_ (a' := ?_) ?_ ?_
        rotate_left
        · show Act.put _ (some 65) _ = _
          simp only [Act.put, List.setIfInBounds_toArray, List.set_cons_zero, List.set_cons_succ]
          rfl
        refine pure_ (i := 9) (N := some 66) (v := ?_) (a' := ?_) #[true, true, true, true, true, true, true, true, true, true, false, false] rfl rfl (by kernel_rfl) (fun _ _ _ h => h) (Or.inl ⟨by rfl, ?_⟩) ?_ ?_
        rotate_left
        · intro w'
          go_simp
          with_reducible rfl
        rotate_left
        · simp only [Act.put, List.setIfInBounds_toArray, List.set_cons_zero, List.set_cons_succ]
          rfl
        refine one_ (i := 10) (N := none) #[true, true, true, true, true, true, true, true, true, true, true, false] rfl rfl (by kernel_rfl) (by decide) (fun K hK => ?_)
        refine skip_ (w1 := ?_) (by rfl) rfl ?_ ?_
        rotate_left
        · go_simp
          rfl
        refine hK.out _ _ trivial (fun hHeld => ?_)
        clear hK K
        refine pure_ (i := 11) (N := some 3) (v := ?_) (a' := ?_) #[true, true, true, true, true, true, true, true, true, true, true, true] rfl rfl (by kernel_rfl) (fun _ _ _ h => h) (Or.inl ⟨by rfl, ?_⟩) ?_ ?_
        rotate_left
        · intro w'
          go_simp
          with_reducible rfl
        rotate_left
        · simp only [Act.put, List.setIfInBounds_toArray, List.set_cons_zero, List.set_cons_succ]
          rfl
        refine done_ (by kernel_rfl) ?_
        go_wp2_with fail
        refine bodyPost_ret (results_ct rfl _ _ (w.heap.size + 1) 35 #[.int .i64 3, .string M, .int .i64 0] (0, 0) _ rfl (lx_blk3 hW7.blk _ _ _) Tryd.underlying35 rfl (by kernel_rfl)) rfl ?_
        exact ⟨rfl, lx_low3 hW7.low (by omega) _ _ _⟩
      · refine skip_ (w1 := ?_) (by rfl) rfl ?_ ?_
        rotate_left
        · go_simp
          rfl
        refine hK.out _ _ trivial (fun hHeld => ?_)
        clear hK K
        refine one_ (i := 8) (N := some 65) #[true, true, true, true, true, true, true, true, true, false, true, false] rfl rfl (by kernel_rfl) (by decide) (fun K hK => ?_)
        refine value_ (w1 := ?_) (v := ?_) (by rfl) rfl ?_ ?_
        rotate_left 2
        · go_simp
          constructor
          · rfl
          · rfl
        refine hK.out _ _ trivial (fun hHeld => ?_)
        clear hK K
        refine norm_ (a' := ?_) ?_ ?_
        rotate_left
        · show Act.put _ (some 65) _ = _
          simp only [Act.put, List.setIfInBounds_toArray, List.set_cons_zero, List.set_cons_succ]
          rfl
        refine pure_ (i := 9) (N := some 66) (v := ?_) (a' := ?_) #[true, true, true, true, true, true, true, true, true, true, true, false] rfl rfl (by kernel_rfl) (fun _ _ _ h => h) (Or.inl ⟨by rfl, ?_⟩) ?_ ?_
        rotate_left
        · intro w'
          go_simp
          with_reducible rfl
        rotate_left
        · simp only [Act.put, List.setIfInBounds_toArray, List.set_cons_zero, List.set_cons_succ]
          rfl
        refine pure_ (i := 11) (N := some 3) (v := ?_) (a' := ?_) #[true, true, true, true, true, true, true, true, true, true, true, true] rfl rfl (by kernel_rfl) (fun _ _ _ h => h) (Or.inl ⟨by rfl, ?_⟩) ?_ ?_
        rotate_left
        · intro w'
          go_simp
          with_reducible rfl
        rotate_left
        · simp only [Act.put, List.setIfInBounds_toArray, List.set_cons_zero, List.set_cons_succ]
          rfl
        refine done_ (by kernel_rfl) ?_
        go_wp2_with fail
        refine bodyPost_ret (results_ct rfl _ _ (w.heap.size + 1) 35 #[.int .i64 3, .string M, .int .i64 0] (0, 0) _ rfl (lx_blk3 hW7.blk _ _ _) Tryd.underlying35 rfl (by kernel_rfl)) rfl ?_
        exact ⟨rfl, lx_low3 hW7.low (by omega) _ _ _⟩
    · refine value_ (w1 := ?_) (v := ?_) (by rfl) rfl ?_ ?_
      rotate_left 2
      · go_simp
        constructor
        · rfl
        · rfl
      refine hK.out _ _ trivial (fun hHeld => ?_)
      clear hK K
      refine norm_ (a' := ?_) ?_ ?_
      rotate_left
      · show Act.put _ (some 65) _ = _
        simp only [Act.put, List.setIfInBounds_toArray, List.set_cons_zero, List.set_cons_succ]
        rfl
      refine pure_ (i := 9) (N := some 66) (v := ?_) (a' := ?_) #[true, true, true, false, false, true, true, true, true, true, false, false] rfl rfl (by kernel_rfl) (fun _ _ _ h => h) (Or.inl ⟨by rfl, ?_⟩) ?_ ?_
      rotate_left
      · intro w'
        go_simp
        with_reducible rfl
      rotate_left
      · simp only [Act.put, List.setIfInBounds_toArray, List.set_cons_zero, List.set_cons_succ]
        rfl
      refine one_ (i := 3) (N := some 60) #[true, true, true, true, false, true, true, true, true, true, false, false] rfl rfl (by kernel_rfl) (by decide) (fun K hK => ?_)
      refine value_ (w1 := ?_) (v := ?_) (by rfl) rfl ?_ ?_
      rotate_left 2
      · go_simp
        constructor
        · rfl
        · rfl
      refine hK.out _ _ trivial (fun hHeld => ?_)
      clear hK K
      refine norm_ (a' := ?_) ?_ ?_
      rotate_left
      · show Act.put _ (some 60) _ = _
        simp only [Act.put, List.setIfInBounds_toArray, List.set_cons_zero, List.set_cons_succ]
        rfl
      refine pure_ (i := 4) (N := some 61) (v := ?_) (a' := ?_) #[true, true, true, true, true, true, true, true, true, true, false, false] rfl rfl (by kernel_rfl) (fun _ _ _ h => h) (Or.inl ⟨by rfl, ?_⟩) ?_ ?_
      rotate_left
      · intro w'
        go_simp
        with_reducible rfl
      rotate_left
      · simp only [Act.put, List.setIfInBounds_toArray, List.set_cons_zero, List.set_cons_succ]
        rfl
      refine one_ (i := 10) (N := none) #[true, true, true, true, true, true, true, true, true, true, true, false] rfl rfl (by kernel_rfl) (by decide) (fun K hK => ?_)
      refine skip_ (w1 := ?_) (by rfl) rfl ?_ ?_
      rotate_left
      · go_simp
        rfl
      refine hK.out _ _ trivial (fun hHeld => ?_)
      clear hK K
      refine pure_ (i := 11) (N := some 3) (v := ?_) (a' := ?_) #[true, true, true, true, true, true, true, true, true, true, true, true] rfl rfl (by kernel_rfl) (fun _ _ _ h => h) (Or.inl ⟨by rfl, ?_⟩) ?_ ?_
      rotate_left
      · intro w'
        go_simp
        with_reducible rfl
      rotate_left
      · simp only [Act.put, List.setIfInBounds_toArray, List.set_cons_zero, List.set_cons_succ]
        rfl
      refine done_ (by kernel_rfl) ?_
      go_wp2_with fail
      refine bodyPost_ret (results_ct rfl _ _ (w.heap.size + 1) 35 #[.int .i64 3, .string M, .int .i64 0] (0, 0) _ rfl (lx_blk3 hW7.blk _ _ _) Tryd.underlying35 rfl (by kernel_rfl)) rfl ?_
      exact ⟨rfl, lx_low3 hW7.low (by omega) _ _ _⟩
set_option maxRecDepth 100000 in
set_option maxHeartbeats 4000000 in
theorem lx_one_Z (s : ByteArray) (w : World) (h0 : 0 < s.size) (hL : lx_pL ((s[0]'h0).toNat : Int) = false) (hF : lx_pF ((s[0]'h0).toNat : Int) = false) (hq : Lib.hasPrefix s.data.toList [39] = false) (hat : lx_at s 12 0 = -1) :
    Calls Tryd.prog 17 #[.string s] w (LxOut w 0 ⟨#[]⟩ 0) := by
  have hu35 := Tryd.underlying35
  have HL := Aside0.mk hL
  have HF := Aside0.mk hF
  have HQ := Aside0.mk hq
  have HAT := Aside0.mk hat
  have hw := lx_wrap s h0
  have hcr := Aside0.mk (fun W => lx_cr ((s[0]'h0).toNat : Int) W (by omega) (by have := (s[0]'h0).toNat_lt; omega))
  clear hL hF hq hat
  go_enter Tryd.func17, Tryd.ntmps17
  go_wp2_with fail
  refine (lx_let _ _).mono ?_
  rintro e w2 ⟨rfl, rfl⟩
  rw [HL.out]
  go_wp2_with fail
  refine (hcr.out _).mono ?_
  rintro e w2 ⟨rfl, hb⟩
  rw [HF.out]
  have HW := Aside0.mk ((LxW.start w s).next hb)
  have hc := HW.out.box
  clear hb
  go_wp2_with fail
  refine (Tryd.strings_HasPrefix s ⟨#[39]⟩ _).mono ?_
  rintro e w3 ⟨rfl, rfl⟩
  rw [show Lib.hasPrefix s.data.toList (⟨#[39]⟩ : ByteArray).data.toList = false from HQ.out]
  go_wp2_with fail
  refine (lx_mk _).mono ?_
  rintro e w4 ⟨b, rfl, hb1, hb2, hb3, hb4⟩
  have HW4 := Aside0.mk (HW.out.next hb4)
  have hc4 := HW4.out.box
  have HB3 := Aside0.mk hb3
  clear hb4 hb1 hb2 hb3 hc
  go_wp2_with fail
  refine (lx_if w.heap.size b s w4 HW4.out.box HB3.out).mono ?_
  rintro e w5 ⟨rfl, rfl⟩
  rw [HAT.out]
  obtain ⟨c0, c1, c2, f0, f1, f2⟩ := HW4.out.facts
  go_wp2_with fail
  refine bodyPost_ret (results_ct rfl _ _ (w.heap.size + 1) 35 #[.int .i64 0, .string ⟨#[]⟩, .int .i64 0] (0, 0) _ rfl (lx_blk3 HW4.out.blk _ _ _) Tryd.underlying35 rfl (by kernel_rfl)) rfl ?_
  exact ⟨rfl, lx_low3 HW4.out.low (by omega) _ _ _⟩
set_option maxRecDepth 100000 in
set_option maxHeartbeats 4000000 in
theorem lx_one_Q2 (s t : ByteArray) (n : Int) (w : World) (h0 : 0 < s.size) (hL : lx_pL ((s[0]'h0).toNat : Int) = false) (hF : lx_pF ((s[0]'h0).toNat : Int) = false) (hq : Lib.hasPrefix s.data.toList [39] = true) (hG : Go.Proofs.YtngeelpfbajppaaDoor.Bs.Gl w) (hquo : ∀ W, Go.Proofs.YtngeelpfbajppaaDoor.Bs.Gl W → Calls Tryd.prog 33 #[.string s] W fun e w' => e = .returned (.tuple #[.string t, .int .i64 n]) ∧ Below W.heap.size W w') (h200 : 200 < t.size) (hat : lx_at s 12 0 = -1) :
    Calls Tryd.prog 17 #[.string s] w (LxOut w 0 ⟨#[]⟩ 0) := by
  have hu35 := Tryd.underlying35
  have HL := Aside0.mk hL
  have HF := Aside0.mk hF
  have HQ := Aside0.mk hq
  have HAT := Aside0.mk hat
  have HG := Aside0.mk hG
  have p1 : 200 < (t.size : Int) := by omega
  have hw := lx_wrap s h0
  have hcr := Aside0.mk (fun W => lx_cr ((s[0]'h0).toNat : Int) W (by omega) (by have := (s[0]'h0).toNat_lt; omega))
  clear hL hF hq hat hG
  go_enter Tryd.func17, Tryd.ntmps17
  go_wp2_with fail
  refine (lx_let _ _).mono ?_
  rintro e w2 ⟨rfl, rfl⟩
  rw [HL.out]
  go_wp2_with fail
  refine (hcr.out _).mono ?_
  rintro e w2 ⟨rfl, hb⟩
  rw [HF.out]
  have HW := Aside0.mk ((LxW.start w s).next hb)
  have hc := HW.out.box
  clear hb
  go_wp2_with fail
  refine (Tryd.strings_HasPrefix s ⟨#[39]⟩ _).mono ?_
  rintro e w3 ⟨rfl, rfl⟩
  rw [show Lib.hasPrefix s.data.toList (⟨#[39]⟩ : ByteArray).data.toList = true from HQ.out]
  go_wp2_with fail
  refine (hquo _ (HG.out.below HW.out.low)).mono ?_
  rintro e w3 ⟨rfl, hb⟩
  have HW := Aside0.mk (HW.out.next hb)
  have hc := HW.out.box
  clear hb
  go_wp2_with fail
  refine (lx_mk _).mono ?_
  rintro e w4 ⟨b, rfl, hb1, hb2, hb3, hb4⟩
  have HW4 := Aside0.mk (HW.out.next hb4)
  have hc4 := HW4.out.box
  have HB3 := Aside0.mk hb3
  clear hb4 hb1 hb2 hb3 hc
  go_wp2_with fail
  refine (lx_if w.heap.size b s w4 HW4.out.box HB3.out).mono ?_
  rintro e w5 ⟨rfl, rfl⟩
  rw [HAT.out]
  obtain ⟨c0, c1, c2, f0, f1, f2⟩ := HW4.out.facts
  go_wp2_with fail
  refine bodyPost_ret (results_ct rfl _ _ (w.heap.size + 1) 35 #[.int .i64 0, .string ⟨#[]⟩, .int .i64 0] (0, 0) _ rfl (lx_blk3 HW4.out.blk _ _ _) Tryd.underlying35 rfl (by kernel_rfl)) rfl ?_
  exact ⟨rfl, lx_low3 HW4.out.low (by omega) _ _ _⟩
def lx_one (s : ByteArray) : Int × ByteArray × Int :=
  match s.data.toList with
  | [] => (0, ⟨#[]⟩, 0)
  | b :: l =>
    if lx_pL (b.toNat : Int) = true then (if lx_run (fun b => lx_pN (b.toNat : Int)) s.data.toList ≤ 20 then (0, s.extract 0 (lx_run (fun b => lx_pN (b.toNat : Int)) s.data.toList), (lx_run (fun b => lx_pN (b.toNat : Int)) s.data.toList : Int)) else (0, ⟨#[]⟩, 0))
    else if lx_pF (b.toNat : Int) = true then (if lx_run (fun b => lx_pF (b.toNat : Int)) s.data.toList ≤ 19 then (1, s.extract 0 (lx_run (fun b => lx_pF (b.toNat : Int)) s.data.toList), (lx_run (fun b => lx_pF (b.toNat : Int)) s.data.toList : Int)) else (0, ⟨#[]⟩, 0))
    else if b = 39 ∧ (lx_qr (lx_q l)).1.size ≤ 200 then (2, (lx_qr (lx_q l)).1, (lx_qr (lx_q l)).2)
    else if lx_at s 12 0 = -1 then (0, ⟨#[]⟩, 0) else (3, lx_marks.getD (lx_at s 12 0).toNat ByteArray.empty, ((lx_marks.getD (lx_at s 12 0).toNat ByteArray.empty).size : Int))
theorem lx_pN_high (r : Nat) (h : 128 ≤ r) : lx_pN (r : Int) = false := by simp [lx_pN, lx_pL, lx_pF]; omega
theorem lx_pF_high (r : Nat) (h : 128 ≤ r) : lx_pF (r : Int) = false := by simp [lx_pF]; omega
theorem lx_at_cases (s : ByteArray) : ∀ n i, lx_at s n i = -1 ∨ ∃ j : Nat, j < i + n ∧ lx_at s n i = (j : Int)
  | 0, i => .inl rfl
  | n + 1, i => by
    unfold lx_at
    split
    · exact .inr ⟨i, by omega, rfl⟩
    · rcases lx_at_cases s n (i + 1) with h | ⟨j, h1, h2⟩
      · exact .inl h
      · exact .inr ⟨j, by omega, h2⟩
theorem lx_at_39 (s : ByteArray) (l : List UInt8) (h : s.data.toList = 39 :: l) : lx_at s 12 0 = -1 := by
  simp [lx_at, lx_marks, h, Lib.hasPrefix, List.isPrefixOf]
def lex_one.f (a0 : ByteArray) : Option (Int × ByteArray × Int × Int) :=
  if a0.size < 4294967281 then if 1 ≤ a0.size then some ((lx_one a0).1, (lx_one a0).2.1, 0, (lx_one a0).2.2) else none else none
theorem lx_all (s : ByteArray) (w : World) (hG : Go.Proofs.YtngeelpfbajppaaDoor.Bs.Gl w) (hs : s.size < 4294967281) (h1 : 1 ≤ s.size) : Calls Tryd.prog 17 #[.string s] w (LxOut w (lx_one s).1 (lx_one s).2.1 (lx_one s).2.2) := by
  have hS : s.data.toList.length = s.size := Array.length_toList
  cases hb : s.data.toList with
  | nil => rw [hb] at hS; simp at hS; omega
  | cons b l =>
    have h0 : 0 < s.size := h1
    have e0 : s[0]'h0 = b := by
      have h0' : 0 < s.data.toList.length := by omega
      have : s.data.toList[0]'h0' = b := by simp [hb]
      exact this
    have hN := lx_run_le (fun b : UInt8 => lx_pN (b.toNat : Int)) s.data.toList
    have hF := lx_run_le (fun b : UInt8 => lx_pF (b.toNat : Int)) s.data.toList
    have e29 : ∀ args w, (callFunc 29 args).run Tryd.prog w = .ok (.enter 29 args) w := enters_of Tryd.func29 (by kernel_rfl) rfl
    have e31 : ∀ args w, (callFunc 31 args).run Tryd.prog w = .ok (.enter 31 args) w := enters_of Tryd.func31 (by kernel_rfl) rfl
    have cN := lx_length 29 lx_pN (fun b => lx_pN (b.toNat : Int)) e29 lx_name (fun _ _ => rfl) lx_pN_high (fun b h => lx_pN_high _ h) s
    have cF := lx_length 31 lx_pF (fun b => lx_pF (b.toNat : Int)) e31 lx_two (fun _ _ => rfl) lx_pF_high (fun b h => lx_pF_high _ h) s
    have cQ := fun W hW => lx_quoted s W hW hs h1
    unfold lx_one
    rw [hb]
    simp only
    rw [← hb]
    by_cases c1 : lx_pL (b.toNat : Int) = true
    · rw [if_pos c1]
      by_cases c2 : lx_run (fun b : UInt8 => lx_pN (b.toNat : Int)) s.data.toList ≤ 20
      · rw [if_pos c2]
        exact lx_one_L s w h0 (by rw [e0]; exact c1) _ (by omega) cN c2
      · rw [if_neg c2]
        exact lx_one_L2 s w h0 (by rw [e0]; exact c1) _ (by omega) cN (by omega)
    rw [if_neg c1]
    have c1' : lx_pL ((s[0]'h0).toNat : Int) = false := by rw [e0]; simpa using c1
    by_cases c3 : lx_pF (b.toNat : Int) = true
    · rw [if_pos c3]
      by_cases c2 : lx_run (fun b : UInt8 => lx_pF (b.toNat : Int)) s.data.toList ≤ 19
      · rw [if_pos c2]
        exact lx_one_F s w h0 c1' (by rw [e0]; exact c3) _ (by omega) cF c2
      · rw [if_neg c2]
        exact lx_one_F2 s w h0 c1' (by rw [e0]; exact c3) _ (by omega) cF (by omega)
    rw [if_neg c3]
    have c3' : lx_pF ((s[0]'h0).toNat : Int) = false := by rw [e0]; simpa using c3
    have hd : s.data.toList.drop 1 = l := by rw [hb]; rfl
    rw [hd] at cQ
    have hpre : Lib.hasPrefix s.data.toList [39] = (b == 39) := by
      rw [hb]
      by_cases e : b = 39
      · subst e; simp [Lib.hasPrefix, List.isPrefixOf]
      · have e' : (39 == b) = false := by simpa using Ne.symm e
        have e2 : (b == 39) = false := by simpa using e
        simp [Lib.hasPrefix, List.isPrefixOf, e', e2]
    have hend : (b = 39 → 200 < (lx_qr (lx_q l)).1.size) → Calls Tryd.prog 17 #[.string s] w (LxOut w (if lx_at s 12 0 = -1 then (0, ⟨#[]⟩, 0) else (3, lx_marks.getD (lx_at s 12 0).toNat ByteArray.empty, ((lx_marks.getD (lx_at s 12 0).toNat ByteArray.empty).size : Int)) : Int × ByteArray × Int).1 (if lx_at s 12 0 = -1 then (0, ⟨#[]⟩, 0) else (3, lx_marks.getD (lx_at s 12 0).toNat ByteArray.empty, ((lx_marks.getD (lx_at s 12 0).toNat ByteArray.empty).size : Int)) : Int × ByteArray × Int).2.1 (if lx_at s 12 0 = -1 then (0, ⟨#[]⟩, 0) else (3, lx_marks.getD (lx_at s 12 0).toNat ByteArray.empty, ((lx_marks.getD (lx_at s 12 0).toNat ByteArray.empty).size : Int)) : Int × ByteArray × Int).2.2) := by
      intro hq
      by_cases c5 : b = 39
      · subst c5
        have ha := lx_at_39 s l hb
        rw [if_pos ha]
        exact lx_one_Q2 s _ _ w h0 c1' c3' (by rw [hpre]; rfl) hG cQ (hq rfl) ha
      · have hp : Lib.hasPrefix s.data.toList [39] = false := by rw [hpre]; simpa using c5
        rcases lx_at_cases s 12 0 with ha | ⟨j, h2, ha⟩
        · rw [if_pos ha]
          exact lx_one_Z s w h0 c1' c3' hp ha
        · rw [if_neg (by omega), ha, Int.toNat_natCast]
          exact lx_one_M s _ j w h0 c1' c3' hp (by omega) rfl ha
    by_cases c4 : b = 39 ∧ (lx_qr (lx_q l)).1.size ≤ 200
    · rw [if_pos c4]
      exact lx_one_Q s _ _ w h0 c1' c3' (by rw [hpre, c4.1]; rfl) hG cQ c4.2
    · rw [if_neg c4]
      exact hend (fun e => by
        have : ¬ (lx_qr (lx_q l)).1.size ≤ 200 := fun h => c4 ⟨e, h⟩
        omega)
theorem lex_one.calls (a0 : ByteArray) (r1 : Int) (r2 : ByteArray) (r3 r4 : Int) (w : World) (hG : Go.Proofs.YtngeelpfbajppaaDoor.Bs.Gl w) (h : lex_one.f a0 = some (r1, r2, r3, r4)) :
    Calls Tryd.prog 17 #[.string a0] w fun e w' => e = .returned (.tuple #[.agg #[.int .i64 r1, .string r2, .int .i64 r3], .int .i64 r4]) ∧ Below w.heap.size w w' := by
  unfold lex_one.f at h
  split at h
  · split at h
    · rename_i h1 h2
      simp only [Option.some.injEq, Prod.mk.injEq] at h
      obtain ⟨rfl, rfl, rfl, rfl⟩ := h
      exact lx_all a0 w hG h1 h2
    · cases h
  · cases h
end Go.Proofs.YtngeelpfbajppaaDoor.PD
end
