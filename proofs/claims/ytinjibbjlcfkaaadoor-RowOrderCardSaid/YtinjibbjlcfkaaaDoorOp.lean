/- A row's arguments, opened into kinds (Kd), with the reach of each string and slice: 'Opens P d t bd': whatever reads as data of type t is of the kind d, and what is read is bounded by bd. -/
import Derived.Deep.Slices
import Derived.Lib.SmallJoins
import Derived.SizedLaws
import Derived.Test.YtinjibbjlcfkaaaDoorWWords
namespace Go.Proofs.YtinjibbjlcfkaaaDoor.Op
open Go Go.Proofs.YtinjibbjlcfkaaaDoorW.PrintWords Go.ChangeShapes Go.WideShapes
set_option linter.unusedVariables false
set_option linter.unusedSimpArgs false

structure Opens (P : Program) {α : Type} (d : Kd α) (t : TypeId) (bd : α → Prop) : Prop where
  cells : P.cellsOf t = d.sz
  opens : ∀ {H : Type} {enc : TypeId × Value → H} {w : World} {fuel : Nat} {cs : List Value} {x : DataW H × List MemPlace},
    DataW.trod enc P w 0 (fun _ => true) true fuel t cs = some x → (∀ n ∈ x.1.weights P t, n ≤ reachBytes) → ∃ y, d.K w y cs ∧ bd y

def inKind (k : IntKind) (n : Int) : Prop := (Lit.int k n).wf = true
theorem inKind_i64 {n : Int} (h : inKind .i64 n) : -9223372036854775808 ≤ n ∧ n ≤ 9223372036854775807 := by
  simp only [inKind, Lit.wf, decide_eq_true_eq, Bool.and_eq_true] at h; exact h
theorem inKind_u8 {n : Int} (h : inKind .u8 n) : 0 ≤ n ∧ n ≤ 255 := by
  simp only [inKind, Lit.wf, decide_eq_true_eq, Bool.and_eq_true] at h; exact h
def reach (s : ByteArray) : Prop := s.size ≤ 140737488351232

variable {P : Program}
theorem Opens.int {t : TypeId} (k : IntKind) (ht : P.underlying t = some (.int k)) (hc : P.cellsOf t = 1) : Opens P (Kd.int k) t (inKind k) :=
  ⟨hc, fun h _ => by
    obtain ⟨n, rfl, _, hw⟩ := DataW.trod_int ht h
    exact ⟨n, rfl, hw⟩⟩
theorem Opens.bool {t : TypeId} (ht : P.underlying t = some .bool) (hc : P.cellsOf t = 1) : Opens P Kd.bool t (fun _ => True) :=
  ⟨hc, fun h _ => by
    obtain ⟨n, rfl, _⟩ := DataW.trod_bool ht h
    exact ⟨n, rfl, trivial⟩⟩
theorem Opens.string {t : TypeId} (ht : P.underlying t = some .string) (hc : P.cellsOf t = 1) : Opens P Kd.string t reach :=
  ⟨hc, fun h hw => by
    obtain ⟨s, rfl, rfl, hs⟩ := DataW.trod_string ht h
    refine ⟨s, rfl, ?_⟩
    have := hw s.data.toList.length (by simp [DataW.weights])
    rw [Array.length_toList] at this
    exact this⟩

theorem weights_all {H : Type} {e : TypeId} {d : DataW H} {l : List (DataW H)} (h : d ∈ l) {n : Nat} (hn : n ∈ d.weights P e) : n ∈ DataW.weightsAll P e l := by
  induction l with
  | nil => cases h
  | cons a l ih =>
    simp only [DataW.weightsAll, List.mem_append]
    rcases List.mem_cons.1 h with rfl | h
    · exact .inl hn
    · exact .inr (ih h)
theorem cells?_get {w : World} {a : Addr} {n : Nat} {c : List Value} (h : w.cells? 0 a n = some c) : c.length = n ∧ ∀ i u, c[i]? = some u → w.cell? (a.add i) = some u := by
  unfold World.cells? at h
  rw [if_pos (Nat.zero_le _)] at h
  have hl : c.length = n := by simpa using mapM_some_length h
  refine ⟨hl, fun i u hu => ?_⟩
  have hi : i < n := by have := (List.getElem?_eq_some_iff.1 hu).1; omega
  have := mapM_some_get h i i (by simp [hi])
  rw [this, hu]

def All {α : Type} (B : Nat) (bd : α → Prop) (xs : List α) : Prop := xs.length * B ≤ 140737488351232 ∧ ∀ y ∈ xs, bd y
theorem Opens.slice {α : Type} {d : Kd α} {t e : TypeId} {bd : α → Prop} (z : α) (ht : P.underlying t = some (.slice e)) (hc : P.cellsOf t = 1) {B : Nat} (hB : P.bytesOf e = B) (h : Opens P d e bd) : Opens P (Kd.slice e d) t (All B bd) :=
  ⟨hc, fun {H enc w fuel cs x} hx hw => by
    rcases DataW.trod_slice ht hx with ⟨rfl, rfl⟩ | ⟨a, len, cap, elems, rest, n, _, rfl, rfl, _, hl, hm, hel, hget, hsp, _⟩
    · exact ⟨[], ⟨none, 0, rfl, Nat.le_refl _, rfl, by simp, fun h => absurd h (by simp)⟩, by simp [All], fun _ h => by cases h⟩
    · have hone : ∀ i, i < len → ∃ y, (∃ c, w.cells? 0 (a.add (i * d.sz)) d.sz = some c ∧ d.K w y c) ∧ bd y := by
        intro i hi
        have h1 := hget i hi
        rw [h.cells] at h1
        have hie : i < elems.length := by omega
        rw [List.getElem?_eq_getElem hie] at h1
        obtain ⟨c, hcc, hcx⟩ := Option.bind_eq_some_iff.1 h1
        obtain ⟨y, hy, hb⟩ := h.opens hcx (fun m hm => hw m (by
          simp only [DataW.weights, ht, List.mem_cons, List.mem_append]
          exact .inr (.inl (weights_all (List.mem_map_of_mem (List.getElem_mem hie)) hm))))
        exact ⟨y, ⟨c, hcc, hy⟩, hb⟩
      haveI : Inhabited α := ⟨z⟩
      obtain ⟨f, hf⟩ := Go.Deep.choose_lt hone
      have hlen : ((List.range len).map f).length = len := by simp
      have hM : maxLen = 9223372036854775807 := rfl
      refine ⟨(List.range len).map f, ⟨some a, cap, by rw [hlen], by rw [hlen]; exact hl, rfl, by rw [hlen]; omega, fun _ => ⟨a, rfl, fun j p hj => ?_⟩⟩, ?_, fun y hy => ?_⟩
      · have hjl : j < len := by have := (List.getElem?_eq_some_iff.1 hj).1; omega
        have hp : p = f j := by
          rw [List.getElem?_map, List.getElem?_range hjl] at hj
          exact (Option.some.inj hj).symm
        subst hp
        obtain ⟨⟨c, hcc, hy⟩, _⟩ := hf j hjl
        obtain ⟨h1, h2⟩ := cells?_get hcc
        refine ⟨c, h1, hy, fun i u hu => ?_⟩
        have := h2 i u hu
        rw [Go.Deep.add_add] at this
        exact this
      · have := hw ((elems.length + rest.length) * P.bytesOf e) (by simp [DataW.weights, ht])
        rw [hB] at this
        rw [hlen]
        have h3 : len * B ≤ (elems.length + rest.length) * B := Nat.mul_le_mul_right _ (by omega)
        exact Nat.le_trans h3 this
      · obtain ⟨i, hi, rfl⟩ := List.mem_map.1 hy
        exact (hf i (List.mem_range.1 hi)).2⟩

/-- Fields in line from cell o on: their types and offsets. -/
def OpensFs (P : Program) {α : Type} (d : Kd α) (o : Nat) (fs : List (TypeId × Nat)) (bd : α → Prop) : Prop :=
  ∀ {H : Type} {enc : TypeId × Value → H} {w : World} {n : Nat} {cs : List Value} {ys : List (DataW H × List MemPlace)}, cs.length = o + d.sz → ys.length = fs.length →
    (∀ (i : Nat) (f : TypeId × Nat), fs[i]? = some f → DataW.trod enc P w 0 (fun _ => true) true n f.1 ((cs.drop f.2).take (P.cellsOf f.1)) = ys[i]?) →
    (∀ n ∈ DataW.weightsEach P (fs.map (·.1)) (ys.map (·.1)), n ≤ reachBytes) → ∃ y, d.K w y (cs.drop o) ∧ bd y
theorem OpensFs.one {α : Type} {d : Kd α} {t : TypeId} {o : Nat} {bd : α → Prop} (h : Opens P d t bd) : OpensFs P d o [(t, o)] bd := by
  intro H enc w n cs ys hl hy hg hw
  obtain ⟨y, rfl⟩ : ∃ y, ys = [y] := by
    match ys, hy with
    | [y], _ => exact ⟨y, rfl⟩
  have h1 := hg 0 (t, o) rfl
  simp only [List.getElem?_cons_zero] at h1
  rw [h.cells, List.take_of_length_le (by rw [List.length_drop]; omega)] at h1
  exact h.opens h1 (fun m hm => hw m (by simpa [DataW.weightsEach] using hm))
theorem OpensFs.cons {α β : Type} {a : Kd α} {b : Kd β} {t : TypeId} {o : Nat} {fs : List (TypeId × Nat)} {ba : α → Prop} {bb : β → Prop} (h : Opens P a t ba) (hr : OpensFs P b (o + a.sz) fs bb) :
    OpensFs P (Kd.pair a b) o ((t, o) :: fs) (fun x => ba x.1 ∧ bb x.2) := by
  intro H enc w n cs ys hl hy hg hw
  obtain ⟨y, ys, rfl⟩ : ∃ y r, ys = y :: r := by
    match ys, hy with
    | y :: r, _ => exact ⟨y, r, rfl⟩
  have hl' : cs.length = o + (a.sz + b.sz) := hl
  have h1 := hg 0 (t, o) rfl
  simp only [List.getElem?_cons_zero] at h1
  rw [h.cells] at h1
  obtain ⟨x, hx, hbx⟩ := h.opens h1 (fun m hm => hw m (by simp only [List.map_cons, DataW.weightsEach, List.mem_append]; exact .inl hm))
  obtain ⟨u, hu, hbu⟩ := hr (cs := cs) (ys := ys) (by omega) (by simpa using hy) (fun i f hf => by have := hg (i + 1) f hf; simpa using this)
    (fun m hm => hw m (by simp only [List.map_cons, DataW.weightsEach, List.mem_append]; exact .inr hm))
  refine ⟨(x, u), ⟨_, _, ?_, hx, hu⟩, hbx, hbu⟩
  rw [← List.drop_drop, List.take_append_drop]
theorem Opens.struct {α β : Type} {d : Kd α} {t : TypeId} {fs : Array Field} {l : List (TypeId × Nat)} {bd : α → Prop} {f : β → α} (g : α → β) (hfg : ∀ x, f (g x) = x) (ht : P.underlying t = some (.struct fs)) (hc : P.cellsOf t = d.sz)
    (hl : fs.toList.map (fun q => (q.type, q.offset)) = l) (h : OpensFs P d 0 l bd) : Opens P (Kd.iso d f) t (fun y => bd (f y)) :=
  ⟨hc, fun {H enc w fuel cs x} hx hw => by
    obtain ⟨xs, n, _, rfl, hlen, hxs, hget⟩ := DataW.trod_struct ht hx
    subst hl
    obtain ⟨y, hy, hb⟩ := h (enc := enc) (w := w) (n := n) (cs := cs) (ys := xs) (by rw [hlen, hc]; omega) (by simpa using hxs)
      (fun i q hq => by
        rw [List.getElem?_map] at hq
        obtain ⟨q', hq', rfl⟩ := Option.map_eq_some_iff.1 hq
        exact hget i q' (by simpa using hq'))
      (fun m hm => hw m (by
        simp only [DataW.weights, ht]
        rw [List.map_map] at hm
        exact hm))
    rw [List.drop_zero] at hy
    exact ⟨g y, by show d.K w (f (g y)) cs; rw [hfg]; exact hy, by rw [hfg]; exact hb⟩⟩

theorem hw_of {H : Type} {ts : List TypeId} {ds : List (DataW H)} (h : (DataW.weightsEach P ts ds).all (· ≤ reachBytes) = true) {j : Nat} {t : TypeId} {d : DataW H} (ht : ts[j]? = some t) (hd : ds[j]? = some d) : ∀ n ∈ d.weights P t, n ≤ reachBytes := fun n hn => by
  simpa using List.all_eq_true.1 h n (DataW.weights_mem_each ht hd n hn)
/-- An argument that is no struct: its one cell. -/
theorem arg_one {α : Type} {d : Kd α} {t : TypeId} {bd : α → Prop} (h : Opens P d t bd) {H : Type} {enc : TypeId × Value → H} {w : World} {v : Value} {x : DataW H} {p : List MemPlace} (hv : v.cells.toList = [v]) (hr : DataW.Trod enc P w 0 (fun _ => true) true t v x p)
    (hw : ∀ n ∈ x.weights P t, n ≤ reachBytes) : ∃ y, d.K w y [v] ∧ bd y := by
  obtain ⟨fuel, hf⟩ := hr
  rw [hv] at hf
  exact h.opens hf hw
/-- An argument that is a struct: its cells. -/
theorem arg_agg {α : Type} {d : Kd α} {t : TypeId} {bd : α → Prop} (h : Opens P d t bd) {H : Type} {enc : TypeId × Value → H} {w : World} {r : Reach} {b0 : Nat} {v : Value} {x : DataW H} {p : List MemPlace} {fs : Array Field} (hs : P.underlying t = some (.struct fs))
    (hv : Value.okWide P w r b0 t v) (hr : DataW.Trod enc P w 0 (fun _ => true) true t v x p) (hw : ∀ n ∈ x.weights P t, n ≤ reachBytes) : ∃ cs y, v = .agg cs ∧ d.K w y cs.toList ∧ bd y := by
  obtain ⟨cs, rfl, _⟩ := okWide_struct hs hv
  obtain ⟨fuel, hf⟩ := hr
  obtain ⟨y, hy, hb⟩ := h.opens hf hw
  exact ⟨cs, y, rfl, hy, hb⟩

end Go.Proofs.YtinjibbjlcfkaaaDoor.Op
