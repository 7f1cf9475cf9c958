/- Rows' functions in closed form: what they come to, with rounds enough. -/
import Derived.Test.YtinjibbjlcfkaaaDoorBs
import Derived.Test.YtinjibbjlcfkaaaDoorPDx2
import Derived.Test.YtinjibbjlcfkaaaDoorPDx3
import Derived.Test.YtinjibbjlcfkaaaDoorPDx6
namespace Go.Proofs.YtinjibbjlcfkaaaDoor.Rk
open Go Go.RowKit Go.Proofs.YtinjibbjlcfkaaaDoorW.PrintWords Go.Proofs.YtinjibbjlcfkaaaDoor.PD
set_option linter.unusedVariables false
set_option linter.unusedSimpArgs false
section
variable {α β : Type}
/-- With rounds enough. -/
def Evr (g : Nat → Option α) (v : α) : Prop := ∃ n, ∀ k, n ≤ k → g k = some v
theorem Evr.const {c : Option α} {v : α} (h : c = some v) : Evr (fun _ => c) v := ⟨0, fun _ _ => h⟩
theorem Evr.succ {g : Nat → Option α} {v : α} (h : Evr (fun k => g (k + 1)) v) : Evr g v := by
  obtain ⟨n, h⟩ := h
  exact ⟨n + 1, fun k hk => by
    obtain ⟨j, rfl⟩ : ∃ j, k = j + 1 := ⟨k - 1, by omega⟩
    exact h j (by omega)⟩
theorem Evr.bind {g : Nat → Option α} {f : Nat → α → Option β} {v : α} {u : β} (h : Evr g v) (h' : Evr (fun k => f k v) u) : Evr (fun k => (g k).bind (f k)) u := by
  obtain ⟨n, h⟩ := h
  obtain ⟨m, h'⟩ := h'
  exact ⟨max n m, fun k hk => by
    show (g k).bind (f k) = _
    rw [h k (by omega)]
    exact h' k (by omega)⟩
theorem Evr.bindc {c : Option α} {f : Nat → α → Option β} {v : α} {u : β} (h : c = some v) (h' : Evr (fun k => f k v) u) : Evr (fun k => c.bind (f k)) u := Evr.bind (Evr.const h) h'
theorem Evr.pos {c : Prop} [Decidable c] {a b : Nat → Option α} {v : α} (hc : c) (h : Evr a v) : Evr (fun k => if c then a k else b k) v := by
  obtain ⟨n, h⟩ := h
  exact ⟨n, fun k hk => by
    show (if c then a k else b k) = _
    rw [if_pos hc]
    exact h k hk⟩
theorem Evr.neg {c : Prop} [Decidable c] {a b : Nat → Option α} {v : α} (hc : ¬ c) (h : Evr b v) : Evr (fun k => if c then a k else b k) v := by
  obtain ⟨n, h⟩ := h
  exact ⟨n, fun k hk => by
    show (if c then a k else b k) = _
    rw [if_neg hc]
    exact h k hk⟩
theorem Evr.mono {g : Nat → Option α} {v : α} {n : Nat} (h : g n = some v) (hm : ∀ k, LeO (g k) (g (k + 1))) : Evr g v := by
  refine ⟨n, fun k hk => ?_⟩
  obtain ⟨d, rfl⟩ : ∃ d, k = n + d := ⟨k - n, by omega⟩
  clear hk
  induction d with
  | zero => exact h
  | succ d ih => exact hm _ _ ih
theorem Evr.ex {g : Nat → Option α} {v : α} (h : Evr g v) : ∃ k, g k = some v := by
  obtain ⟨n, h⟩ := h
  exact ⟨n, h n (Nat.le_refl _)⟩
end
theorem wrap_eq {x : Int} (h0 : -9223372036854775808 ≤ x) (h1 : x ≤ 9223372036854775807) : wrap64 x = x := by unfold wrap64; omega
theorem wrap_nat {n : Nat} (h : n < 9223372036854775807) : wrap64 ((n : Int) + 1) = ((n + 1 : Nat) : Int) := by unfold wrap64; omega
theorem rd_get {l : List S35} {i : Nat} (h : i < l.length) : rd_T35 l (i : Int) = l[i] := by simp [rd_T35, h]
theorem rd_int {l : List Int} {i : Nat} (h : i < l.length) : rd l (i : Int) = l[i] := by simp [rd, h]
theorem alive_ev : Evr (fun k => instarlaw05_alive.f k) true := Evr.mono instarlaw05_alive.at_ instarlaw05_alive.mono
/-- The texts' bytes together. -/
def sz (l : List S35) : Nat := (l.map fun y => y.f2.size).sum
theorem sz_app (a b : List S35) : sz (a ++ b) = sz a + sz b := by simp [sz]
theorem sz_take {l : List S35} {i : Nat} (h : i < l.length) : sz (l.take (i + 1)) = sz (l.take i) + l[i].f2.size := by
  rw [List.take_succ_eq_append_getElem h, sz_app]
  simp [sz]
theorem sz_le {l : List S35} (hb : ∀ y ∈ l, y.f2.size ≤ 140737488351232) : ∀ i, i ≤ l.length → sz (l.take i) ≤ i * 140737488351232
  | 0, _ => by simp [sz]
  | i + 1, h => by
    have := sz_le hb i (by omega)
    rw [sz_take (by omega)]
    have := hb l[i] (List.getElem_mem _)
    omega
theorem small_l {l : List S35} (hb : ∀ y ∈ l, y.f2.size ≤ 140737488351232) : ∀ n i, n = 31 - i → i ≤ 31 → i ≤ l.length →
    ∃ b, Evr (fun k => instarlaw05_Small.l0 k l (sz (l.take i) : Int) (i : Int)) b ∧ (b = true → l.length ≤ 30 ∧ sz l ≤ 600)
  | n, i, hn, hi, hl => by
    have hs := sz_le hb i hl
    by_cases c : i < l.length
    · by_cases c2 : i ≤ 30
      · obtain ⟨b, hev, hh⟩ := small_l hb (31 - (i + 1)) (i + 1) rfl (by omega) c
        refine ⟨b, Evr.succ ?_, hh⟩
        simp only [instarlaw05_Small.l0]
        refine Evr.pos (by omega) (Evr.pos (by omega) (Evr.pos (by omega) ?_))
        have hb' := hb l[i] (List.getElem_mem _)
        rw [rd_get c, wrap_eq (by omega) (by omega), wrap_nat (by omega)]
        have e : ((sz (l.take i) : Int) + (l[i].f2.size : Int)) = ((sz (l.take (i + 1)) : Nat) : Int) := by rw [sz_take c]; omega
        rw [e]
        exact hev
      · refine ⟨false, Evr.succ ?_, by simp⟩
        simp only [instarlaw05_Small.l0]
        exact Evr.pos (by omega) (Evr.neg (by omega) (Evr.neg (by omega) (Evr.const rfl)))
    · have e : i = l.length := by omega
      by_cases c3 : l.length ≤ 30
      · refine ⟨decide ((sz (l.take i) : Int) ≤ 600), Evr.succ ?_, ?_⟩
        · simp only [instarlaw05_Small.l0]
          exact Evr.neg (by omega) (Evr.pos (by omega) (Evr.const rfl))
        · intro h
          have h := of_decide_eq_true h
          rw [e, List.take_length] at h
          exact ⟨c3, by omega⟩
      · refine ⟨false, Evr.succ ?_, by simp⟩
        simp only [instarlaw05_Small.l0]
        exact Evr.neg (by omega) (Evr.neg (by omega) (Evr.const rfl))
  termination_by n => n
theorem small_ev {l : List S35} (hb : ∀ y ∈ l, y.f2.size ≤ 140737488351232) : ∃ b, Evr (fun k => instarlaw05_Small.f k l) b ∧ (b = true → l.length ≤ 30 ∧ sz l ≤ 600) := by
  obtain ⟨b, h, hh⟩ := small_l hb 31 0 rfl (by omega) (by omega)
  exact ⟨b, by simpa [sz, instarlaw05_Small.f] using h, hh⟩
/-- What Pick tells. -/
def pickS (l : List S35) (at_ : List Int) : List S35 × Int := if ∀ i ∈ at_, 0 ≤ i ∧ i < (l.length : Int) then (at_.map (rd_T35 l), 0) else ([], 51)
theorem set_mid {γ : Type} (a : List γ) (z v : γ) (b : List γ) : (a ++ z :: b).set a.length v = a ++ v :: b := by
  induction a with
  | nil => rfl
  | cons x a ih => simp [ih]
theorem pick_l (l : List S35) (at_ : List Int) (hl : at_.length < 9223372036854775807) : ∀ n i, n = at_.length - i → i ≤ at_.length → (∀ j, j < i → ∀ h : j < at_.length, 0 ≤ at_[j] ∧ at_[j] < (l.length : Int)) →
    Evr (fun k => row_Pick.l0 k l at_ ((at_.take i).map (rd_T35 l) ++ List.replicate (at_.length - i) z35) (at_.length : Int) (i : Int)) (pickS l at_)
  | n, i, hn, hi, hh => by
    refine Evr.succ ?_
    simp only [row_Pick.l0]
    by_cases c : i < at_.length
    · refine Evr.pos (by omega) (Evr.pos (by omega) (Evr.pos (by omega) ?_))
      rw [rd_int c]
      by_cases c1 : at_[i] < 0
      · refine Evr.pos c1 (Evr.const ?_)
        rw [pickS, if_neg (fun h => by have := h at_[i] (List.getElem_mem _); omega)]
      · refine Evr.neg c1 ?_
        by_cases c2 : at_[i] ≥ (l.length : Int)
        · refine Evr.pos c2 (Evr.const ?_)
          rw [pickS, if_neg (fun h => by have := h at_[i] (List.getElem_mem _); omega)]
        · refine Evr.neg c2 (Evr.pos (by omega) (Evr.pos (by omega) (Evr.pos (by simp only [List.length_append, List.length_map, List.length_take, List.length_replicate]; omega) ?_)))
          have e1 : (at_.take i).map (rd_T35 l) ++ List.replicate (at_.length - i) z35 = (at_.take i).map (rd_T35 l) ++ z35 :: List.replicate (at_.length - (i + 1)) z35 := by
            rw [show at_.length - i = (at_.length - (i + 1)) + 1 by omega, List.replicate_succ]
          have e2 : ((at_.take i).map (rd_T35 l)).length = i := by rw [List.length_map, List.length_take]; omega
          have e3 : ((at_.take i).map (rd_T35 l) ++ List.replicate (at_.length - i) z35).set ((i : Int)).toNat (rd_T35 l at_[i]) = (at_.take (i + 1)).map (rd_T35 l) ++ List.replicate (at_.length - (i + 1)) z35 := by
            rw [Int.toNat_natCast, e1]
            conv => lhs; arg 2; rw [← e2]
            rw [set_mid, List.take_succ_eq_append_getElem c, List.map_append]
            simp
          rw [wrap_nat (by omega)]
          have h := pick_l l at_ hl (at_.length - (i + 1)) (i + 1) rfl c (fun j hj h => by
            by_cases e : j = i
            · subst e; omega
            · exact hh j (by omega) h)
          rw [← e3] at h
          exact h
    · have e : i = at_.length := by omega
      refine Evr.neg (by omega) (Evr.const ?_)
      rw [pickS, if_pos (fun x hx => by
        obtain ⟨j, hj, rfl⟩ := List.getElem_of_mem hx
        exact hh j (by omega) hj), e, List.take_length]
      simp
  termination_by n => n
theorem pick_ev (l : List S35) (at_ : List Int) (hl : at_.length ≤ 8796093022208) : Evr (fun k => row_Pick.f k l at_) (pickS l at_) := by
  unfold row_Pick.f
  refine Evr.pos (by omega) (Evr.pos (by omega) ?_)
  have h := pick_l l at_ (by omega) _ 0 rfl (Nat.zero_le _) (fun j hj => by omega)
  simpa using h
end Go.Proofs.YtinjibbjlcfkaaaDoor.Rk
