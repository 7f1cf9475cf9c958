-- printed by drv.py (this session) by way of the kit's print.py, and given texts
import Derived.Test.YtinjibbjlcfkaaaDoorPCx0
import Derived.Test.YtinjibbjlcfkaaaDoorPCx1
import Derived.Laws.CopyOwn
import Derived.Laws.CopyRow
namespace Go.Proofs.YtinjibbjlcfkaaaDoor.PC
open Go.RowKit Go.Proofs.YtinjibbjlcfkaaaDoorW.PrintWords Go.Proofs.YtinjibbjlcfkaaaDoorW.PrintLast Go.Proofs.YtinjibbjlcfkaaaDoorW.PrintMore
attribute [local go_sem] max2_int min2_int max_two min_two max_three min_three max_four min_four   -- for this text's walks alone
attribute [local go_sem high] Go.Proofs.YtinjibbjlcfkaaaDoor.Bs.gtr_bl Go.Proofs.YtinjibbjlcfkaaaDoor.Bs.leq_bl
set_option linter.unusedVariables false
set_option linter.unusedSimpArgs false

attribute [local go_sem high] eqA35
/-! ### instarref04_Same: function 25 -/
def instarref04_Same.l0 : Nat → List (S35) → List (S35) → Int → Option (Bool)
  | 0, _, _, _ => none
  | k + 1, x0, x1, x5 => if x5 < (x0.length : Int) then (if 0 ≤ x5 then (if x5 < (x1.length : Int) then (if (!(((rd_T35 x0 x5).f0) == ((rd_T35 x1 x5).f0)) || (!(((rd_T35 x0 x5).f1) == ((rd_T35 x1 x5).f1)) || (!((((rd_T35 x0 x5).f2).toList) == (((rd_T35 x1 x5).f2).toList))))) = true then (some false) else (instarref04_Same.l0 k x0 x1 (wrap64 (x5 + 1)))) else (none)) else (none)) else (some true)
def instarref04_Same.f (k : Nat) (l0 : List (S35)) (l1 : List (S35)) : Option (Bool) := if (l0.length : Int) = (l1.length : Int) then (instarref04_Same.l0 k l0 l1 0) else (some false)
theorem instarref04_Same.mono_l : ∀ k, (∀ y0 y1 y2, LeO (instarref04_Same.l0 k y0 y1 y2) (instarref04_Same.l0 (k + 1) y0 y1 y2))
  | 0 => fun _ _ _ r h => by simp [instarref04_Same.l0] at h
  | k + 1 => by
    have ih0 := instarref04_Same.mono_l k
    · intro y0 y1 y2
      unfold instarref04_Same.l0
      repeat' first
      | (with_reducible exact ih0 _ _ _)
      | (with_reducible exact LeO.refl _)
      | (with_reducible exact LeO.none _)
      | (with_reducible refine LeO.ite ?_ ?_)
      | (with_reducible refine LeO.bind ?_ (fun _ => ?_))
      | exact ih0 _ _ _
      | exact LeO.none _
      | refine LeO.ite ?_ ?_
      | refine LeO.bind ?_ (fun _ => ?_)
theorem instarref04_Same.mono : ∀ a0 a1 k, LeO (instarref04_Same.f k a0 a1) (instarref04_Same.f (k + 1) a0 a1) := by
  intro a0 a1 k
  have ih0 := instarref04_Same.mono_l k
  unfold instarref04_Same.f
  repeat' first
      | (with_reducible exact ih0 _ _ _)
      | (with_reducible exact LeO.refl _)
      | (with_reducible exact LeO.none _)
      | (with_reducible refine LeO.ite ?_ ?_)
      | (with_reducible refine LeO.bind ?_ (fun _ => ?_))
      | exact ih0 _ _ _
      | exact LeO.none _
      | refine LeO.ite ?_ ?_
      | refine LeO.bind ?_ (fun _ => ?_)
set_option maxHeartbeats 8000000 in
set_option maxRecDepth 100000 in
theorem instarref04_Same.calls (k : Nat) (A0 : Option Addr) (c0 : Nat) (l0 : List (S35)) (A1 : Option Addr) (c1 : Nat) (l1 : List (S35)) (r : Bool) (w : World) (hr0 : Kd.C k35 w A0 l0.length l0) (hc0 : l0.length ≤ c0) (hr1 : Kd.C k35 w A1 l1.length l1) (hc1 : l1.length ≤ c1) (h : instarref04_Same.f k l0 l1 = some r) :
    Calls Tryd.prog 25 #[.slice A0 l0.length c0, .slice A1 l1.length c1] w fun e w' => e = .returned (.bool r) ∧ Drawn0 w w' := by
  have hu35 := Tryd.underlying35
  have HR0 := Aside0.mk hr0
  have HC0 := Aside0.mk hc0
  clear hr0 hc0
  have HR1 := Aside0.mk hr1
  have HC1 := Aside0.mk hc1
  clear hr1 hc1
  have H : (if (l0.length : Int) = (l1.length : Int) then (instarref04_Same.l0 k l0 l1 0) else (some false)) = some r := h
  clear h
  by_cases c3 : (l0.length : Int) = (l1.length : Int)
  · rw [if_pos c3] at H
    have c3b0 : ((l0.length : Int) == (l1.length : Int)) = true := beq_iff_eq.mpr c3
    have c3b1 : ((l0.length : Int) != (l1.length : Int)) = false := bne_eq_false_iff_eq.mpr c3
    have c3b2 : (l0.length == l1.length) = true := by first | simpa using c3 | (simp at c3 ⊢; omega)
    clear c3
    have H' := Aside0.mk H
    clear H
    go_enter Tryd.func25, Tryd.ntmps25
    go_wp2
    repeat (go_quiet (fail); try go_wp2)
    go_loopg [5] k (fun kq v5 w' => ∃ (x5_1 : Int), v5 = .int .i64 x5_1 ∧ Aside0 (instarref04_Same.l0 kq l0 l1 x5_1 = some r) ∧ Aside0 (kq ≤ k) ∧ Drawn0 w w')
    case atStart => exact ⟨(0), (by first | rfl | (simp; done) | (simp [*]; done) | (simp [Go.Proofs.YtinjibbjlcfkaaaDoor.Bs.isEmpty_bne, Go.Proofs.YtinjibbjlcfkaaaDoor.Bs.isEmpty_beq]; done)), H', ⟨Nat.le_refl _⟩, by repeat (first | exact Drawn0.refl _ | apply Drawn0.step)⟩
    case round =>
      clear H'
      try clear c1
      try clear c2
      try clear p2
      try clear c3
      try clear c3b0
      try clear c3b1
      try clear c3b2
      obtain ⟨x5_1, rfl, HA, HK1, ⟨m1, rfl⟩⟩ := hrel
      cases gk with
      | zero => exact absurd HA.out (by simp [instarref04_Same.l0])
      | succ k1 =>
        have H := HA.out
        clear HA
        simp only [instarref04_Same.l0] at H
        by_cases c4 : x5_1 < (l0.length : Int)
        · rw [if_pos c4] at H
          have c4b0 : decide (x5_1 < (l0.length : Int)) = true := decide_eq_true c4
          clear c4
          by_cases c5 : 0 ≤ x5_1
          · rw [if_pos c5] at H
            have c5b0 : decide (0 ≤ x5_1) = true := decide_eq_true c5
            clear c5
            by_cases c6 : x5_1 < (l1.length : Int)
            · rw [if_pos c6] at H
              have c6b0 : decide (x5_1 < (l1.length : Int)) = true := decide_eq_true c6
              clear c6
              by_cases c7 : (!(((rd_T35 l0 x5_1).f0) == ((rd_T35 l1 x5_1).f0)) || (!(((rd_T35 l0 x5_1).f1) == ((rd_T35 l1 x5_1).f1)) || (!((((rd_T35 l0 x5_1).f2).toList) == (((rd_T35 l1 x5_1).f2).toList))))) = true
              · rw [if_pos c7] at H
                have c7b0 : (!(((rd_T35 l0 x5_1).f0) == ((rd_T35 l1 x5_1).f0)) || (!(((rd_T35 l0 x5_1).f1) == ((rd_T35 l1 x5_1).f1)) || (!((((rd_T35 l0 x5_1).f2).toList) == (((rd_T35 l1 x5_1).f2).toList))))) = true := c7
                clear c7
                obtain rfl := Option.some.inj H
                have p101 : 0 ≤ (x5_1 : Int) := of_decide_eq_true (by first | (with_reducible assumption) | assumption)
                have q101 : x5_1 < (l0.length : Int) := of_decide_eq_true (by first | (with_reducible assumption) | assumption)
                obtain ⟨ad101, e101, hx101_0, hx101_1, hx101_2⟩ := at_T35 HR0.out x5_1 p101 q101
                cases e101
                replace p101 := eq_true p101
                replace q101 := eq_true q101
                have p102 : 0 ≤ (x5_1 : Int) := of_decide_eq_true (by first | (with_reducible assumption) | assumption)
                have q102 : x5_1 < (l1.length : Int) := of_decide_eq_true (by first | (with_reducible assumption) | assumption)
                obtain ⟨ad102, e102, hx102_0, hx102_1, hx102_2⟩ := at_T35 HR1.out x5_1 p102 q102
                cases e102
                replace p102 := eq_true p102
                replace q102 := eq_true q102
                go_wp2
                repeat (go_quiet (fail); try go_wp2)
                go_ret
                exact ⟨by first | rfl | (simp; done) | (simp [*]; done) | (simp [Go.Proofs.YtinjibbjlcfkaaaDoor.Bs.isEmpty_bne, Go.Proofs.YtinjibbjlcfkaaaDoor.Bs.isEmpty_beq]; done), by repeat (first | exact Drawn0.refl _ | apply Drawn0.step)⟩
              · rw [if_neg c7] at H
                have c7b0 : (!(((rd_T35 l0 x5_1).f0) == ((rd_T35 l1 x5_1).f0)) || (!(((rd_T35 l0 x5_1).f1) == ((rd_T35 l1 x5_1).f1)) || (!((((rd_T35 l0 x5_1).f2).toList) == (((rd_T35 l1 x5_1).f2).toList))))) = false := by simpa using c7
                clear c7
                have H' := Aside0.mk H
                clear H
                have p101 : 0 ≤ (x5_1 : Int) := of_decide_eq_true (by first | (with_reducible assumption) | assumption)
                have q101 : x5_1 < (l0.length : Int) := of_decide_eq_true (by first | (with_reducible assumption) | assumption)
                obtain ⟨ad101, e101, hx101_0, hx101_1, hx101_2⟩ := at_T35 HR0.out x5_1 p101 q101
                cases e101
                replace p101 := eq_true p101
                replace q101 := eq_true q101
                have p102 : 0 ≤ (x5_1 : Int) := of_decide_eq_true (by first | (with_reducible assumption) | assumption)
                have q102 : x5_1 < (l1.length : Int) := of_decide_eq_true (by first | (with_reducible assumption) | assumption)
                obtain ⟨ad102, e102, hx102_0, hx102_1, hx102_2⟩ := at_T35 HR1.out x5_1 p102 q102
                cases e102
                replace p102 := eq_true p102
                replace q102 := eq_true q102
                go_wp2
                repeat (go_quiet (fail); try go_wp2)
                go_roundg k1
                case measure => have := HK1.out; omega
                case rel => exact ⟨(wrap64 (x5_1 + 1)), (by first | rfl | (simp; done) | (simp [*]; done) | (simp [Go.Proofs.YtinjibbjlcfkaaaDoor.Bs.isEmpty_bne, Go.Proofs.YtinjibbjlcfkaaaDoor.Bs.isEmpty_beq]; done)), H', ⟨by have := HK1.out; omega⟩, by repeat (first | exact Drawn0.refl _ | apply Drawn0.step)⟩
            · rw [if_neg c6] at H
              exact absurd H (by simp)
          · rw [if_neg c5] at H
            exact absurd H (by simp)
        · rw [if_neg c4] at H
          have c4b0 : decide (x5_1 < (l0.length : Int)) = false := decide_eq_false c4
          clear c4
          obtain rfl := Option.some.inj H
          go_wp2
          repeat (go_quiet (fail); try go_wp2)
          go_ret
          exact ⟨by first | rfl | (simp; done) | (simp [*]; done) | (simp [Go.Proofs.YtinjibbjlcfkaaaDoor.Bs.isEmpty_bne, Go.Proofs.YtinjibbjlcfkaaaDoor.Bs.isEmpty_beq]; done), by repeat (first | exact Drawn0.refl _ | apply Drawn0.step)⟩
  · rw [if_neg c3] at H
    have c3b0 : ((l0.length : Int) == (l1.length : Int)) = false := beq_eq_false_iff_ne.mpr c3
    have c3b1 : ((l0.length : Int) != (l1.length : Int)) = true := bne_iff_ne.mpr c3
    have c3b2 : (l0.length == l1.length) = false := by first | simpa using c3 | (simp at c3 ⊢; omega)
    obtain rfl := Option.some.inj H
    go_enter Tryd.func25, Tryd.ntmps25
    go_wp2
    repeat (go_quiet (fail); try go_wp2)
    go_ret
    exact ⟨by first | rfl | (simp; done) | (simp [*]; done) | (simp [Go.Proofs.YtinjibbjlcfkaaaDoor.Bs.isEmpty_bne, Go.Proofs.YtinjibbjlcfkaaaDoor.Bs.isEmpty_beq]; done), by repeat (first | exact Drawn0.refl _ | apply Drawn0.step)⟩

/-! ### instarref05_Same: function 11 -/
def instarref05_Same.f (k : Nat) (l0 : List (S35)) (l1 : List (S35)) : Option (Bool) := (instarref04_Same.f k l0 l1).bind fun t101 => (some t101)
theorem instarref05_Same.mono : ∀ a0 a1 k, LeO (instarref05_Same.f k a0 a1) (instarref05_Same.f (k + 1) a0 a1) := by
  intro a0 a1 k
  unfold instarref05_Same.f
  repeat' first
      | (with_reducible exact instarref04_Same.mono _ _ _)
      | (with_reducible exact LeO.refl _)
      | (with_reducible exact LeO.none _)
      | (with_reducible refine LeO.ite ?_ ?_)
      | (with_reducible refine LeO.bind ?_ (fun _ => ?_))
      | exact instarref04_Same.mono _ _ _
      | exact LeO.none _
      | refine LeO.ite ?_ ?_
      | refine LeO.bind ?_ (fun _ => ?_)
set_option maxHeartbeats 8000000 in
set_option maxRecDepth 100000 in
theorem instarref05_Same.calls (k : Nat) (A0 : Option Addr) (c0 : Nat) (l0 : List (S35)) (A1 : Option Addr) (c1 : Nat) (l1 : List (S35)) (r : Bool) (w : World) (hr0 : Kd.C k35 w A0 l0.length l0) (hc0 : l0.length ≤ c0) (hr1 : Kd.C k35 w A1 l1.length l1) (hc1 : l1.length ≤ c1) (h : instarref05_Same.f k l0 l1 = some r) :
    Calls Tryd.prog 11 #[.slice A0 l0.length c0, .slice A1 l1.length c1] w fun e w' => e = .returned (.bool r) ∧ Drawn0 w w' := by
  have HR0 := Aside0.mk hr0
  have HC0 := Aside0.mk hc0
  clear hr0 hc0
  have HR1 := Aside0.mk hr1
  have HC1 := Aside0.mk hc1
  clear hr1 hc1
  have H : ((instarref04_Same.f k l0 l1).bind fun t101 => (some t101)) = some r := h
  clear h
  replace H := Option.bind_eq_some_iff.mp H
  obtain ⟨t101, A30, H⟩ := H
  replace H : (some t101) = some r := H
  have A3 := Aside0.mk A30
  clear A30
  obtain rfl := Option.some.inj H
  go_enter Tryd.func11, Tryd.ntmps11
  go_wp2_with (first | ((with_reducible refine gate_callee (f := 25) rfl ?_); refine goesL_ (some 7) rfl rfl Tryd.func25 (by kernel_rfl) rfl #[.slice A0 l0.length c0, .slice A1 l1.length c1] rfl (by (try simp only [List.map_toArray, List.map_cons, List.map_nil]); first | done | rfl | (simp only [List.length_drop, List.length_take]; rfl)) ?_; (with_reducible refine (instarref04_Same.calls k _ _ l0 _ _ l1 t101 _ ?side1 ?side2 ?side3 ?side4 A3.out).mono ?_); (case side1 => repeat (first | exact HR0.out | (with_reducible refine Kd.C_alloc ?_ _) | (with_reducible refine Kd.C_drewN ?_ _) | (with_reducible refine Kd.C_drew ?_))); (case side2 => exact HC0.out); (case side3 => repeat (first | exact HR1.out | (with_reducible refine Kd.C_alloc ?_ _) | (with_reducible refine Kd.C_drewN ?_ _) | (with_reducible refine Kd.C_drew ?_))); (case side4 => exact HC1.out); rintro e w' ⟨rfl, ⟨nd, rfl⟩⟩; refine ⟨_, rfl, ?_⟩))
  go_ret
  exact ⟨by first | rfl | (simp; done) | (simp [*]; done) | (simp [Go.Proofs.YtinjibbjlcfkaaaDoor.Bs.isEmpty_bne, Go.Proofs.YtinjibbjlcfkaaaDoor.Bs.isEmpty_beq]; done), by repeat (first | exact Drawn0.refl _ | apply Drawn0.step)⟩

/-! ### row_Join: function 12 (given) -/
-- NEEDS Derived.Laws.CopyOwn
-- NEEDS Derived.Laws.CopyRow
-- IMPORT Derived.Laws.CopyOwn
-- IMPORT Derived.Laws.CopyRow
/-- The cells of rows' values. -/
def jn_one (y : S35) : List Value := [.int .i64 y.f0, .int .i64 y.f1, .string y.f2]
def jn_enc (l : List S35) : List Value := (l.map jn_one).flatten
theorem jn_enc_len : ∀ l : List S35, (jn_enc l).length = l.length * 3
  | [] => rfl
  | y :: l => by
    have := jn_enc_len l
    simp only [jn_enc, List.map_cons, List.flatten_cons, List.length_append, List.length_cons] at this ⊢
    simp only [jn_one, List.length_cons, List.length_nil]
    omega
theorem jn_enc_app (a b : List S35) : jn_enc (a ++ b) = jn_enc a ++ jn_enc b := by simp [jn_enc]
theorem jn_enc_cell : ∀ (l : List S35) (u : Value), u ∈ jn_enc l → u.oneCell' = true := by
  intro l u h
  simp only [jn_enc, List.mem_flatten, List.mem_map] at h
  obtain ⟨c, ⟨y, _, rfl⟩, h⟩ := h
  simp only [jn_one, List.mem_cons, List.not_mem_nil, or_false] at h
  rcases h with rfl | rfl | rfl <;> rfl
theorem jn_enc_get : ∀ (l : List S35) (j : Nat) (v : Value), (jn_enc l)[j]? = some v → ∃ y, l[j / 3]? = some y ∧ (jn_one y)[j % 3]? = some v
  | [], j, v, h => by simp [jn_enc] at h
  | y :: l, j, v, h => by
    have e : jn_enc (y :: l) = jn_one y ++ jn_enc l := by simp [jn_enc]
    rw [e] at h
    by_cases hj : j < 3
    · rw [List.getElem?_append_left (by simpa [jn_one] using hj)] at h
      exact ⟨y, by rw [Nat.div_eq_of_lt hj]; rfl, by rw [Nat.mod_eq_of_lt hj]; exact h⟩
    · rw [List.getElem?_append_right (by simp [jn_one]; omega)] at h
      obtain ⟨z, h1, h2⟩ := jn_enc_get l _ v h
      have e3 : (jn_one y).length = 3 := rfl
      rw [e3] at h1 h2
      refine ⟨z, ?_, ?_⟩
      · have : j / 3 = (j - 3) / 3 + 1 := by omega
        rw [this]
        simpa using h1
      · have : j % 3 = (j - 3) % 3 := by omega
        rw [this]
        exact h2
theorem jn_reps {w : World} {base : Nat} {ok : Nat → Prop} : ∀ (l : List S35) (inner : List Value), Reps (k35.M w base ok) 3 l inner → inner = jn_enc l
  | [], inner, h => by
    have := h.1
    simp only [List.length_nil, Nat.zero_mul] at this
    simpa [jn_enc] using this
  | y :: l, inner, h => by
    have h0 := k35_openM (h.2 0 y rfl)
    have hl := h.1
    simp only [List.length_cons] at hl
    have ht := jn_reps l (inner.drop 3) ⟨by rw [List.length_drop, hl]; omega, fun j p hj => by
      have := h.2 (j + 1) p (by simpa using hj)
      rw [List.drop_drop]
      have e : 3 + j * 3 = (j + 1) * 3 := by omega
      rw [e]
      exact this⟩
    have e : jn_enc (y :: l) = jn_one y ++ jn_enc l := by simp [jn_enc]
    rw [e, ← ht]
    simp only [Nat.zero_mul, List.drop_zero] at h0
    rw [show jn_one y = inner.take 3 from h0.symm]
    exact (List.take_append_drop 3 inner).symm
theorem jn_reps' {w : World} {base : Nat} {ok : Nat → Prop} (l : List S35) : Reps (k35.M w base ok) 3 l (jn_enc l) := by
  refine ⟨jn_enc_len l, fun j p hj => ?_⟩
  have hlt := (List.getElem?_eq_some_iff.1 hj).1
  have e : l = l.take j ++ p :: l.drop (j + 1) := by
    have h1 := (List.getElem?_eq_some_iff.1 hj).2
    rw [← h1, ← List.drop_eq_getElem_cons hlt, List.take_append_drop]
  have e2 : jn_enc l = jn_enc (l.take j) ++ (jn_one p ++ jn_enc (l.drop (j + 1))) := by
    conv => lhs; rw [e]
    rw [jn_enc_app]
    simp [jn_enc]
  have e3 : (jn_enc (l.take j)).length = j * 3 := by rw [jn_enc_len, List.length_take]; omega
  rw [e2, ← e3, List.drop_left]
  exact k35_mkM _ _ _ p
theorem jn_run {P : Program} (w : World) (dT sT ty elem : TypeId) (sz g o dLen dCap : Nat) (a : Addr) (sLen sCap : Nat) (cur : Array Value) (t : TypeId) (cs : List Value)
    (hu : P.underlying dT = some (.slice elem)) (hs : (P.info? elem).map (·.size) = some sz)
    (hg : w.heap[g]? = some (.cells cur t (0, 0))) (hn : cs.length = Nat.min sLen dLen * sz)
    (hsrc : ∀ j v, cs[j]? = some v → w.cell? (a.add j) = some v) (hfit : o + cs.length ≤ cur.size) (h1 : ∀ v ∈ cs, v.oneCell' = true) :
    (Builtin.copy_ #[dT, sT] ty #[.slice (some ⟨g, o, none⟩) dLen dCap, .slice (some a) sLen sCap]).run P w =
      .ok (goInt (Nat.min sLen dLen)) (w.setRow g (cur.toList.take o ++ cs ++ cur.toList.drop (o + cs.length)).toArray) := by
  have hl := run_loadCells_list (P := P) w a cs hsrc
  have hst := run_storeCells_at P g o t cs 0 cur w hg (by simpa using hfit) h1
  cases hq : P.info? elem with
  | none => simp [hq] at hs
  | some i =>
    have hi : i.size = sz := by simpa [hq] using hs
    simp [Builtin.copy_, run_underlying hu, Builtin.lenOf, Builtin.firstCells, sizeOf, typeInfo, hq, hi, ← hn, hl, hst]
theorem jn_run0 {P : Program} (w : World) (dT sT ty elem : TypeId) (sz : Nat) (d a : Option Addr) (dLen dCap sCap : Nat) (hu : P.underlying dT = some (.slice elem)) (hs : (P.info? elem).map (·.size) = some sz) :
    (Builtin.copy_ #[dT, sT] ty #[.slice d dLen dCap, .slice a 0 sCap]).run P w = .ok (goInt 0) w := by
  cases hq : P.info? elem with
  | none => simp [hq] at hs
  | some i => cases d <;> cases a <;> simp [Builtin.copy_, run_underlying hu, Builtin.lenOf, Builtin.firstCells, sizeOf, typeInfo, hq, storeCells, loadCells, loadCellsFrom]
/-- What a copy into one's own rows leaves. -/
theorem jn_copy {W : World} {base g cap : Nat} {ok : Nat → Prop} {xs ys : List S35} {A : Option Addr} {c1 c2 : Nat} (ty : TypeId) (n at_ : Nat) (hn : n = xs.length) (h : Kd.R k35 35 W base ok (.slice (some ⟨g, 0, none⟩) xs.length cap) xs)
    (hC : Kd.C k35 W A ys.length ys) (hat : at_ + ys.length ≤ xs.length) (hy : 0 < ys.length) :
    ∃ W', (Builtin.copy_ #[27, 27] ty #[.slice (some ⟨g, at_ * 3, none⟩) (n - at_) c1, .slice A ys.length c2]).run Tryd.prog W = .ok (.int .i64 (ys.length : Int)) W' ∧
      Kd.R k35 35 W' base ok (.slice (some ⟨g, 0, none⟩) xs.length cap) (xs.take at_ ++ ys ++ xs.drop (at_ + ys.length)) ∧ Below base W W' := by
  subst hn
  obtain ⟨hok, inner, ⟨hil, hform⟩, hr⟩ := h
  rcases hform with ⟨e, h0⟩ | ⟨g', cap', cur, e, hbase, hg, hle, hm, hcs, htk⟩
  · omega
  · injection e with e1 e2 e3
    injection e1 with e1
    injection e1 with e1
    subst e1
    subst e3
    have hin := jn_reps xs inner hr
    obtain ⟨_, _, hs0⟩ := hC
    obtain ⟨ad, rfl, hsrc⟩ := hs0 hy
    have hcap : cap * 3 = cur.size := hcs.symm
    have hrun := jn_run (P := Tryd.prog) W 27 27 ty 35 3 g (at_ * 3) (xs.length - at_) c1 ad ys.length c2 cur 35 (jn_enc ys) Tryd.underlying27 (by kernel_rfl) hg
      (by rw [jn_enc_len, show Nat.min ys.length (xs.length - at_) = ys.length from Nat.min_eq_left (by omega)])
      (fun j v hj => by
        obtain ⟨y, hy1, hy2⟩ := jn_enc_get ys j v hj
        obtain ⟨c, hc1, hc2, hc3⟩ := hsrc _ y hy1
        obtain rfl := k35_open hc2
        have := hc3 (j % 3) v hy2
        have e : j / 3 * 3 + j % 3 = j := by omega
        rw [show k35.sz = 3 from rfl, e] at this
        exact this)
      (by rw [jn_enc_len]; omega) (jn_enc_cell ys)
    rw [show Nat.min ys.length (xs.length - at_) = ys.length from Nat.min_eq_left (by omega)] at hrun
    refine ⟨_, hrun, ⟨hok, jn_enc (xs.take at_ ++ ys ++ xs.drop (at_ + ys.length)), ⟨by rw [jn_enc_len]; rfl, .inr ⟨g, cap, _, ?_, hbase, setRow_heap W g cur _ 35 (0, 0) hg, ?_, hm, ?_, ?_⟩⟩, jn_reps' _⟩, below_setRow (Below.refl _ _) hbase _⟩
    · have e1 : (xs.take at_ ++ ys ++ xs.drop (at_ + ys.length)).length = xs.length := by
        simp only [List.length_append, List.length_take, List.length_drop]
        omega
      rw [e1]
    · simp only [List.length_append, List.length_take, List.length_drop]
      omega
    · simp only [List.size_toArray, List.length_append, List.length_take, List.length_drop, jn_enc_len, Array.length_toList]
      rw [show k35.sz = 3 from rfl]
      omega
    · have e1 : (xs.take at_ ++ ys ++ xs.drop (at_ + ys.length)).length = xs.length := by
        simp only [List.length_append, List.length_take, List.length_drop]
        omega
      have e2 : cur.toList.take (xs.length * 3) = jn_enc xs := hin ▸ htk
      have e3 : cur.toList = jn_enc xs ++ cur.toList.drop (xs.length * 3) := by rw [← e2, List.take_append_drop]
      have f1 : jn_enc xs = jn_enc (xs.take at_) ++ jn_enc (xs.drop at_) := by rw [← jn_enc_app, List.take_append_drop]
      have f2 : jn_enc xs = jn_enc (xs.take (at_ + ys.length)) ++ jn_enc (xs.drop (at_ + ys.length)) := by rw [← jn_enc_app, List.take_append_drop]
      have g1 : (jn_enc (xs.take at_)).length = at_ * 3 := by rw [jn_enc_len, List.length_take]; omega
      have g2 : (jn_enc (xs.take (at_ + ys.length))).length = at_ * 3 + (jn_enc ys).length := by rw [jn_enc_len, List.length_take, jn_enc_len]; omega
      have h1 : cur.toList.take (at_ * 3) = jn_enc (xs.take at_) := by
        rw [e3, f1, List.append_assoc, ← g1, List.take_left' rfl]
      have h2 : cur.toList.drop (at_ * 3 + (jn_enc ys).length) = jn_enc (xs.drop (at_ + ys.length)) ++ cur.toList.drop (xs.length * 3) := by
        conv => lhs; rw [e3]
        rw [f2, List.append_assoc, ← g2, List.drop_left]
      rw [e1, h1, h2, show k35.sz = 3 from rfl]
      have e4 : jn_enc (xs.take at_ ++ ys ++ xs.drop (at_ + ys.length)) = jn_enc (xs.take at_) ++ jn_enc ys ++ jn_enc (xs.drop (at_ + ys.length)) := by rw [jn_enc_app, jn_enc_app]
      have e5 : xs.length * 3 = (jn_enc (xs.take at_ ++ ys ++ xs.drop (at_ + ys.length))).length := by rw [jn_enc_len, e1]
      rw [e5, e4, ← List.append_assoc]
      exact List.take_left' rfl
def row_Join.f (l0 : List (List S35)) : Option (List S35) := if l0.flatten.length ≤ 4000000000 then some l0.flatten else none
def jn_rd (xs : List (List S35)) (i : Int) : (List S35) := xs.getD i.toNat ([] : List S35)
theorem jn_at {w : World} {A : Option Addr} {n : Nat} {xs : List (List S35)} (h : Kd.C (Kd.slice 35 k35) w A n xs) (i : Int) (h0 : 0 ≤ i) (h1 : i < n) : ∃ ad A0 c0, A = some ad ∧ w.cell? (ad.add i.toNat) = some (.slice A0 (jn_rd xs i).length c0) ∧ (jn_rd xs i).length ≤ c0 ∧ k35.C w A0 (jn_rd xs i).length (jn_rd xs i) := by
  obtain ⟨ad, c, e, _, hK, hc0⟩ := Kd.C_get h ([] : List S35) i h0 h1
  have hc : ∀ j u, c[j]? = some u → w.cell? (ad.add (i.toNat * 1 + j)) = some u := hc0
  obtain ⟨A0, c0, rfl, l0, g0⟩ := hK
  exact ⟨ad, A0, c0, e, by have hq := hc 0 _ rfl; rwa [Nat.mul_one, Nat.add_zero] at hq, l0, g0⟩
theorem jn_take {l0 : List (List S35)} {i : Nat} (c : i < l0.length) : (l0.take (i + 1)).flatten = (l0.take i).flatten ++ jn_rd l0 (i : Int) := by
  rw [List.take_succ_eq_append_getElem c, List.flatten_append]
  simp [jn_rd, c]
theorem jn_le (l0 : List (List S35)) (i : Nat) : (l0.take i).flatten.length ≤ l0.flatten.length := by
  conv => rhs; rw [← List.take_append_drop i l0]
  rw [List.flatten_append, List.length_append]
  omega
set_option maxRecDepth 100000 in
set_option maxHeartbeats 4000000 in
theorem row_Join.calls (A0 : Option Addr) (c0 : Nat) (l0 : List (List S35)) (r : List S35) (w : World) (hr0 : Kd.C (Kd.slice 35 k35) w A0 l0.length l0) (hc0 : l0.length ≤ c0) (h : row_Join.f l0 = some r) :
    Calls Tryd.prog 12 #[.slice A0 l0.length c0] w fun e w' => ∃ v0_ : Value, e = .returned (v0_) ∧ Kd.R k35 35 w' w.heap.size (fun _ => True) v0_ r ∧ Below w.heap.size w w' := by
  have HR0 := Aside0.mk hr0
  have hN : l0.length ≤ 9223372036854775807 := hr0.2.1
  clear hr0 hc0
  unfold row_Join.f at h
  split at h
  case isFalse => cases h
  rename_i hF0
  obtain rfl := Option.some.inj h
  clear h
  have hF := Aside0.mk hF0
  clear hF0
  have HB0 := Aside0.mk (Below.refl w.heap.size w)
  go_enter Tryd.func12, Tryd.ntmps12
  go_wp2_with fail
  go_loopg [3, 12] l0.length (fun kq v3 v12 w' => ∃ (i n : Nat), v3 = .int .i64 (n : Int) ∧ Aside0 (n = (l0.take i).flatten.length) ∧ v12 = .int .i64 (i : Int) ∧ Aside0 (i ≤ l0.length) ∧ Aside0 (kq = l0.length - i) ∧ Aside0 (Below w.heap.size w w'))
  case atStart => exact ⟨0, 0, rfl, ⟨by simp⟩, rfl, ⟨Nat.zero_le _⟩, ⟨rfl⟩, HB0⟩
  case round =>
    obtain ⟨i, n, rfl, hn, rfl, hi, hk, HB⟩ := hrel
    by_cases c : i < l0.length
    · have cI : decide ((i : Int) < (l0.length : Int)) = true := decide_eq_true (by omega)
      obtain ⟨ad, A1, c1, e0, hx0, hl1, hC1⟩ := jn_at HR0.out (i : Int) (by omega) (by omega)
      cases e0
      replace hx0 := (HB.out.cell (World.block_lt_of_cell? w _ hx0)).trans hx0
      have hC := Aside0.mk hC1
      simp only [Int.toNat_natCast] at hx0
      have p1 : (0 ≤ (i : Int)) = True := eq_true (by omega)
      have q1 : ((i : Int) < (l0.length : Int)) = True := eq_true (by omega)
      clear hC1
      go_wp2_with fail
      go_roundg (gk - 1)
      case measure => have := hk.out; omega
      case rel =>
        have h1 := jn_le l0 (i + 1)
        rw [jn_take c, List.length_append] at h1
        have h2 := hF.out
        have h3 := hn.out
        refine ⟨i + 1, n + (jn_rd l0 (i : Int)).length, ?_, ⟨by rw [jn_take c, List.length_append, h3]⟩, by congr 1, ⟨c⟩, ⟨by have := hk.out; omega⟩, HB⟩
        congr 1
        unfold wrap64
        omega
    · have cI : decide ((i : Int) < (l0.length : Int)) = false := decide_eq_false (by omega)
      have hd : l0.take i = l0 := List.take_of_length_le (by omega)
      have hn' := Aside0.mk (hd ▸ hn.out)
      have hm0 : (0 : Int) ≤ (n : Int) := by omega
      clear hn hd
      go_wp2_with (first | ((with_reducible refine gate_dst (N := 22) rfl ?_); (try (refine gate_guard (by rfl) ?_; dsimp only)); refine Kd.R_make k35 _ 35 rfl (N := 22) rfl 27 _ _ rfl (n : Int) rfl rfl Tryd.underlying27 (.agg #[(.int .i64 0), (.int .i64 0), (.string ⟨#[]⟩)]) 32 info35 rfl (by decide) (by omega) z35 (ok := fun _ => True) (okp := fun _ => True) (k35_mkM _ _ _ z35 ) (fun _ hk => hk) trivial hm0 (by have := hn'.out; have := hF.out; omega) (Below.refl _ _) (Nat.le_refl _) ?_; intro v102 w5 ho6 hb hg_ hnew_; clear hg_ hnew_; have HO := Aside0.mk (Kd.R_lower ho6 HB.out.size); have HB5 := Aside0.mk (below_step HB.out hb); clear hb ho6))
      clear HB
      obtain ⟨A, cap, hV, hcap, hA⟩ : ∃ (A : Option Addr) (cap : Nat), v102 = .slice A n cap ∧ n ≤ cap ∧ (A = none ∧ n = 0 ∨ ∃ g, A = some ⟨g, 0, none⟩) := by
        obtain ⟨_, inner, ⟨_, hform⟩, _⟩ := HO.out
        simp only [Int.toNat_natCast, List.length_replicate] at hform
        rcases hform with ⟨e, h0⟩ | ⟨g', cap', cur, e, hbase, hg, hle, hm, hcs, htk⟩
        · exact ⟨none, 0, by rw [e, h0], by omega, .inl ⟨rfl, h0⟩⟩
        · exact ⟨_, cap', e, hle, .inr ⟨g', rfl⟩⟩
      subst hV
      have hA' := Aside0.mk hA
      have hcap' := Aside0.mk hcap
      clear hA hcap
      have HOx : Aside0 (Kd.R k35 35 w5 w.heap.size (fun _ => True) (.slice A n cap) ((l0.take 0).flatten ++ List.replicate (n - 0) z35)) := ⟨by simpa using HO.out⟩
      clear HO
      go_loopg [7, 25] l0.length (fun kq v7 v25 w' => ∃ (i m : Nat), v7 = .int .i64 (m : Int) ∧ Aside0 (m = (l0.take i).flatten.length) ∧ v25 = .int .i64 (i : Int) ∧ Aside0 (i ≤ l0.length) ∧ Aside0 (kq = l0.length - i) ∧ Aside0 (Kd.R k35 35 w' w.heap.size (fun _ => True) (.slice A n cap) ((l0.take i).flatten ++ List.replicate (n - m) z35)) ∧ Aside0 (Below w.heap.size w w'))
      case atStart => exact ⟨0, 0, rfl, ⟨by simp⟩, rfl, ⟨Nat.zero_le _⟩, ⟨rfl⟩, HOx, HB5⟩
      case round =>
        clear HOx HB5 HB0 hi hk hm0 cI c
        obtain ⟨i, m, rfl, hm, rfl, hi, hk, HO, HB⟩ := hrel
        by_cases c : i < l0.length
        · have cI : decide ((i : Int) < (l0.length : Int)) = true := decide_eq_true (by omega)
          obtain ⟨ad, A1, c1, e0, hx0, hl1, hC1⟩ := jn_at HR0.out (i : Int) (by omega) (by omega)
          cases e0
          replace hx0 := (HB.out.cell (World.block_lt_of_cell? w _ hx0)).trans hx0
          have hC := Aside0.mk (Kd.C_below hC1 HB.out)
          simp only [Int.toNat_natCast] at hx0
          have p1 : (0 ≤ (i : Int)) = True := eq_true (by omega)
          have q1 : ((i : Int) < (l0.length : Int)) = True := eq_true (by omega)
          have h1 := jn_le l0 (i + 1)
          rw [jn_take c, List.length_append, ← hm.out, ← hn'.out] at h1
          have hmn := Aside0.mk h1
          have p2 : (0 ≤ (m : Int)) = True := eq_true (by omega)
          have q2 : ((m : Int) ≤ (n : Int)) = True := eq_true (by omega)
          clear hC1 h1
          have htk := Aside0.mk (jn_take c)
          obtain ⟨ys, hys⟩ : ∃ ys, ys = jn_rd l0 (i : Int) := ⟨_, rfl⟩
          rw [← hys] at hx0 hC hmn htk
          clear hys hl1
          obtain ⟨L, hL⟩ : ∃ L, L = ys.length := ⟨_, rfl⟩
          rw [← hL] at hx0
          have hL' := Aside0.mk hL
          clear hL
          by_cases hy : L = 0
          · subst hy
            have hcp : ∀ d dl dc, (Builtin.copy_ #[27, 27] 3 #[.slice d dl dc, .slice A1 0 c1]).run Tryd.prog wr = .ok (.int .i64 0) wr := fun d dl dc => jn_run0 wr 27 27 3 35 3 d A1 dl dc c1 Tryd.underlying27 (by kernel_rfl)
            have hys0 : ys = [] := List.eq_nil_of_length_eq_zero hL'.out.symm
            have hnext := Aside0.mk (show (l0.take (i + 1)).flatten = (l0.take i).flatten by rw [htk.out, hys0, List.append_nil])
            have hm' := Aside0.mk (hm.out.trans (congrArg List.length hnext.out.symm))
            have HO' : Aside0 (Kd.R k35 35 wr w.heap.size (fun _ => True) (.slice A n cap) ((l0.take (i + 1)).flatten ++ List.replicate (n - m) z35)) := ⟨by rw [hnext.out]; exact HO.out⟩
            clear HO hm hnext
            by_cases hcm : cap = m
            · subst hcm
              go_wp2_with fail
              go_roundg (gk - 1)
              case measure => have := hk.out; omega
              case rel => exact ⟨i + 1, cap, (by first | rfl | (simp; done) | (congr 1; have := hF.out; have := hmn.out; have := hn'.out; unfold wrap64; omega)), hm', by congr 1, ⟨c⟩, ⟨by have := hk.out; omega⟩, HO', HB⟩
            · have hcm' : (cap = m) = False := eq_false hcm
              clear hcm
              go_wp2_with fail
              go_roundg (gk - 1)
              case measure => have := hk.out; omega
              case rel => exact ⟨i + 1, m, (by first | rfl | (simp; done) | (congr 1; have := hF.out; have := hmn.out; have := hn'.out; unfold wrap64; omega)), hm', by congr 1, ⟨c⟩, ⟨by have := hk.out; omega⟩, HO', HB⟩
          · have hcm' : (cap = m) = False := eq_false (by have := hmn.out; have := hL'.out; have := hcap'.out; omega)
            obtain ⟨g, rfl⟩ : ∃ g, A = some ⟨g, 0, none⟩ := by
              rcases hA'.out with ⟨_, h0⟩ | h0
              · have := hmn.out; have := hL'.out; omega
              · exact h0
            have hlen : ((l0.take i).flatten ++ List.replicate (n - m) z35).length = n := by
              rw [List.length_append, List.length_replicate, ← hm.out]
              have := hmn.out
              omega
            have hR : Kd.R k35 35 wr w.heap.size (fun _ => True) (.slice (some ⟨g, 0, none⟩) ((l0.take i).flatten ++ List.replicate (n - m) z35).length cap) ((l0.take i).flatten ++ List.replicate (n - m) z35) := by
              rw [hlen]
              exact HO.out
            obtain ⟨W', hcp, hR', hB'⟩ := jn_copy 3 n m hlen.symm hR hC.out (by rw [hlen]; exact hmn.out) (by have := hL'.out; omega) (c1 := cap - m) (c2 := c1)
            have hX : ((l0.take i).flatten ++ List.replicate (n - m) z35).take m ++ ys ++ ((l0.take i).flatten ++ List.replicate (n - m) z35).drop (m + ys.length) = (l0.take (i + 1)).flatten ++ List.replicate (n - (m + L)) z35 := by
              rw [htk.out, hL'.out]
              have e1 := hm.out
              rw [List.take_left' e1.symm, List.drop_append, e1, List.drop_eq_nil_of_le (by omega), List.nil_append, List.drop_replicate]
              congr 2
              omega
            rw [hX, hlen] at hR'
            rw [← hL'.out] at hcp
            have hR2 := Aside0.mk hR'
            have hB2 := Aside0.mk (HB.out.trans hB')
            have hm' : Aside0 (m + L = (l0.take (i + 1)).flatten.length) := ⟨by rw [htk.out, List.length_append, ← hm.out, ← hL'.out]⟩
            clear hR hR' hB' hX hlen HO HB
            go_wp2_with fail
            go_roundg (gk - 1)
            case measure => have := hk.out; omega
            case rel => exact ⟨i + 1, m + L, (by congr 1; have := hF.out; have := hmn.out; have := hn'.out; have := hL'.out; unfold wrap64; omega), hm', by congr 1, ⟨c⟩, ⟨by have := hk.out; omega⟩, hR2, hB2⟩
        · have cI : decide ((i : Int) < (l0.length : Int)) = false := decide_eq_false (by omega)
          have hd : l0.take i = l0 := List.take_of_length_le (by omega)
          have HO' := HO.out
          rw [hd] at HO'
          have hz : n - m = 0 := by rw [hn'.out, hm.out, hd]; omega
          rw [hz] at HO'
          have HO2 := Aside0.mk HO'
          clear HO HO' hd hz
          go_wp2_with fail
          go_ret
          exact ⟨_, rfl, by simpa using HO2.out, HB.out⟩

/-! ### instarref05_Join: function 13 -/
def instarref05_Join.l0 : Nat → List (List (S35)) → List (S35) → Int → Option ((List (S35)))
  | 0, _, _, _ => none
  | k + 1, x0, x3, x4 => if x4 < (x0.length : Int) then (if 0 ≤ x4 then (if x3.length + (rd_L4 x0 x4).length < 4398046511104 then (instarref05_Join.l0 k x0 (x3 ++ (rd_L4 x0 x4)) (wrap64 (x4 + 1))) else (none)) else (none)) else (some x3)
def instarref05_Join.f (k : Nat) (l0 : List (List (S35))) : Option ((List (S35))) := instarref05_Join.l0 k l0 ([] : List (S35)) 0
theorem instarref05_Join.mono_l : ∀ k, (∀ y0 y1 y2, LeO (instarref05_Join.l0 k y0 y1 y2) (instarref05_Join.l0 (k + 1) y0 y1 y2))
  | 0 => fun _ _ _ r h => by simp [instarref05_Join.l0] at h
  | k + 1 => by
    have ih0 := instarref05_Join.mono_l k
    · intro y0 y1 y2
      unfold instarref05_Join.l0
      repeat' first
      | (with_reducible exact ih0 _ _ _)
      | (with_reducible exact LeO.refl _)
      | (with_reducible exact LeO.none _)
      | (with_reducible refine LeO.ite ?_ ?_)
      | (with_reducible refine LeO.bind ?_ (fun _ => ?_))
      | exact ih0 _ _ _
      | exact LeO.none _
      | refine LeO.ite ?_ ?_
      | refine LeO.bind ?_ (fun _ => ?_)
theorem instarref05_Join.mono : ∀ a0 k, LeO (instarref05_Join.f k a0) (instarref05_Join.f (k + 1) a0) := by
  intro a0 k
  have ih0 := instarref05_Join.mono_l k
  unfold instarref05_Join.f
  repeat' first
      | (with_reducible exact ih0 _ _ _)
      | (with_reducible exact LeO.refl _)
      | (with_reducible exact LeO.none _)
      | (with_reducible refine LeO.ite ?_ ?_)
      | (with_reducible refine LeO.bind ?_ (fun _ => ?_))
      | exact ih0 _ _ _
      | exact LeO.none _
      | refine LeO.ite ?_ ?_
      | refine LeO.bind ?_ (fun _ => ?_)
set_option maxHeartbeats 8000000 in
set_option maxRecDepth 100000 in
theorem instarref05_Join.calls (k : Nat) (A0 : Option Addr) (c0 : Nat) (l0 : List (List (S35))) (r : List (S35)) (w : World) (hr0 : Kd.C (Kd.slice 35 k35) w A0 l0.length l0) (hc0 : l0.length ≤ c0) (h : instarref05_Join.f k l0 = some r) :
    Calls Tryd.prog 13 #[.slice A0 l0.length c0] w fun e w' => ∃ v0_ : Value, e = .returned (v0_) ∧ Kd.R k35 35 w' w.heap.size (fun _ => True) v0_ r ∧ Below w.heap.size w w' := by
  have HR0 := Aside0.mk hr0
  have HC0 := Aside0.mk hc0
  clear hr0 hc0
  have HB := Aside0.mk (Below.refl w.heap.size w)
  have H : (instarref05_Join.l0 k l0 ([] : List (S35)) 0) = some r := h
  clear h
  have H' := Aside0.mk H
  clear H
  go_enter Tryd.func13, Tryd.ntmps13
  go_wp2
  go_loopg [3, 4] k (fun kq v3 v4 w' => ∃ (x3_1 : List (S35)) (x4_1 : Int), v4 = .int .i64 x4_1 ∧ Aside0 (instarref05_Join.l0 kq l0 x3_1 x4_1 = some r) ∧ Aside0 (kq ≤ k) ∧ Aside0 (Kd.R k35 35 w' w.heap.size (fun _ => True) v3 x3_1) ∧ Aside0 (Below w.heap.size w w'))
  case atStart => exact ⟨(([] : List (S35))), (0), (by first | rfl | (simp; done) | (simp [*]; done) | (simp [Go.Proofs.YtinjibbjlcfkaaaDoor.Bs.isEmpty_bne, Go.Proofs.YtinjibbjlcfkaaaDoor.Bs.isEmpty_beq]; done)), H', ⟨Nat.le_refl _⟩, ⟨by first | exact Kd.R_nil _ _ _ _ _ | exact Kd.N_nil _ _ _ _ _ | exact Kd.V_nil _ _ _ _ _ | exact Kd.Q_nil _ _ _ _ _ | exact Kd.S_nil _ _ _ _ _⟩, ⟨by repeat (first | (with_reducible first | exact HB.out | apply below_alloc | apply pw_below_drewN | apply below_drew1) | exact HB.out)⟩⟩
  case round =>
    clear H'
    try clear c1
    obtain ⟨x3_1, x4_1, rfl, HA, HK1, HO_3, HB⟩ := hrel
    cases gk with
    | zero => exact absurd HA.out (by simp [instarref05_Join.l0])
    | succ k1 =>
      have H := HA.out
      clear HA
      simp only [instarref05_Join.l0] at H
      by_cases c2 : x4_1 < (l0.length : Int)
      · rw [if_pos c2] at H
        have c2b0 : decide (x4_1 < (l0.length : Int)) = true := decide_eq_true c2
        clear c2
        by_cases c3 : 0 ≤ x4_1
        · rw [if_pos c3] at H
          have c3b0 : decide (0 ≤ x4_1) = true := decide_eq_true c3
          clear c3
          by_cases c4 : x3_1.length + (rd_L4 l0 x4_1).length < 4398046511104
          · rw [if_pos c4] at H
            have LMc4 := Aside0.mk c4
            clear c4
            obtain ⟨y102, hy102⟩ : ∃ y_ : List (S35), y_ = (x3_1 ++ (rd_L4 l0 x4_1)) := ⟨_, rfl⟩
            replace H : (instarref05_Join.l0 k1 l0 y102 (wrap64 (x4_1 + 1))) = some r := by first | (rw [hy102]; with_reducible exact H) | (have H2_ := (Option.bind_some _ _).symm.trans H; rw [hy102]; with_reducible exact H2_) | (have H2_ := (Option.bind_some _ _).symm.trans H; with_reducible exact H2_) | with_reducible exact H | (rw [hy102]; exact H) | exact H
            have Ny102 := Aside0.mk hy102
            clear hy102
            have H' := Aside0.mk H
            clear H
            have p101 : 0 ≤ (x4_1 : Int) := of_decide_eq_true (by first | (with_reducible assumption) | assumption)
            have q101 : x4_1 < (l0.length : Int) := of_decide_eq_true (by first | (with_reducible assumption) | assumption)
            obtain ⟨ad101, A101_0, c101_0, e101, hx101_0, hl101_0, hi101_0⟩ := at_L4 HR0.out x4_1 p101 q101
            cases e101
            replace hx101_0 := (HB.out.cell (World.block_lt_of_cell? w _ hx101_0)).trans hx101_0
            have HR101_0 := Aside0.mk hi101_0
            have HC101_0 := Aside0.mk hl101_0
            clear hi101_0 hl101_0
            replace p101 := eq_true p101
            replace q101 := eq_true q101
            go_wp2_with (first | ((with_reducible refine gate_builtin (b := .append) (xs := #[.tmp 11, .tmp 15]) rfl ?_); at_builtin; refine Kd.R_append_rows k35 (w0 := w) w.heap.size rfl (.tmp 11) (.tmp 15) 27 35 (.agg #[(.int .i64 0), (.int .i64 0), (.string ⟨#[]⟩)]) 32 rfl Tryd.underlying27 info35 rfl (by decide) (by omega) u3 x3_1 (rd_L4 l0 x4_1) _ _ _ (fun _ => True) (fun _ => False) rfl rfl ?aO ?aR (fun _ _ h => h) (fun _ h => h.elim) ?aF ?aB ?aS ?aL ?_; (case aR => repeat (first | exact (Kd.C_below HR101_0.out HB.out) | (with_reducible refine Kd.C_alloc ?_ _) | (with_reducible refine Kd.C_drewN ?_ _) | (with_reducible refine Kd.C_drew ?_))); (case aB => exact (by repeat (first | (with_reducible first | exact HB.out | apply below_alloc | apply pw_below_drewN | apply below_drew1) | exact HB.out))); (case aF => exact (fun _ _ => trivial)); (case aO => exact (by (with_reducible repeat (first | apply Kd.R_alloc | apply Kd.R_drewN | apply Kd.R_drew)); exact HO_3.out)); (case aS => exact (below_size (by repeat (first | (with_reducible first | exact HB.out | apply below_alloc | apply pw_below_drewN | apply below_drew1) | exact HB.out)))); (case aL => have := LMc4.out; omega); intro v103 w5 ho hb hg hat; rw [← Ny102.out] at ho; have n0_ := Aside0.mk (hb); have n1_ := Aside0.mk (ho); clear HB; clear HO_3; have HB := n0_; have HO104 := n1_; clear n0_ n1_; clear ho hb hg hat))
            go_roundg k1
            case measure => have := HK1.out; omega
            case rel => exact ⟨(y102), (wrap64 (x4_1 + 1)), (by first | rfl | (simp; done) | (simp [*]; done) | (simp [Go.Proofs.YtinjibbjlcfkaaaDoor.Bs.isEmpty_bne, Go.Proofs.YtinjibbjlcfkaaaDoor.Bs.isEmpty_beq]; done)), H', ⟨by have := HK1.out; omega⟩, ⟨by (with_reducible repeat (first | apply Kd.R_alloc | apply Kd.R_drewN | apply Kd.R_drew)); exact HO104.out⟩, ⟨by repeat (first | (with_reducible first | exact HB.out | apply below_alloc | apply pw_below_drewN | apply below_drew1) | exact HB.out)⟩⟩
          · rw [if_neg c4] at H
            exact absurd H (by simp)
        · rw [if_neg c3] at H
          exact absurd H (by simp)
      · rw [if_neg c2] at H
        have c2b0 : decide (x4_1 < (l0.length : Int)) = false := decide_eq_false c2
        clear c2
        obtain rfl := Option.some.inj H
        go_wp2
        go_ret
        exact ⟨_, by first | rfl | (simp [errW_none, errW_some] <;> rfl) | (simp [*, errW_none, errW_some] <;> rfl), by (with_reducible repeat (first | apply Kd.R_alloc | apply Kd.R_drewN | apply Kd.R_drew)); exact HO_3.out, by repeat (first | (with_reducible first | exact HB.out | apply below_alloc | apply pw_below_drewN | apply below_drew1) | exact HB.out)⟩

end Go.Proofs.YtinjibbjlcfkaaaDoor.PC
