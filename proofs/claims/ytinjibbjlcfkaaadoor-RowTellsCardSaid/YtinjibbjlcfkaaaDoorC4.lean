/- For every input the law instar/instarlaw05.RowTells returns true, and each argument reads afterwards as it read before; no condition but the row's own (what the listed variables hold, which the card ties to the program's text). -/
import Derived.Test.YtinjibbjlcfkaaaDoorC0
import Derived.Test.YtinjibbjlcfkaaaDoorC1
import Derived.Test.YtinjibbjlcfkaaaDoorC2
import Derived.Test.YtinjibbjlcfkaaaDoorC3
import Derived.Deep.Slices
import Derived.Lib.SmallJoins
import Derived.SizedLaws
import Derived.Lib.Replace
import Derived.Laws.BytesArg
import Derived.Lib.CountLaws
import Derived.Lib.IndexBytes
import Derived.Laws.BitsAllLaws
import Derived.Lib.ItoaNum
import Derived.Lib.ItoaMem
import Derived.Lib.ItoaLen
import Derived.Test.YtinjibbjlcfkaaaDoorRows
import Derived.Lib.LaidU8
import Derived.Lib.LaidTab
import Derived.Shelf.LaysM
import Derived.Test.YtinjibbjlcfkaaaDoorCards
import Derived.Test.YtinjibbjlcfkaaaDoorTie
import Derived.WalkKit
import Derived.ProofKit
import Derived.OpenShut
import Derived.ShutString
import Derived.ChangeOld
import Derived.Below
import Derived.Deep.DeepHandedRow
import Derived.Deep.DeepWitnessRowRef
import Derived.Lay
import Derived.LaidOnce
import Derived.SevenTiedAt
section
namespace Go.Proofs.YtinjibbjlcfkaaaDoor.PE
open Go.RowKit Go.Proofs.YtinjibbjlcfkaaaDoorW.PrintWords Go.Proofs.YtinjibbjlcfkaaaDoorW.PrintLast Go.Proofs.YtinjibbjlcfkaaaDoorW.PrintMore
attribute [local go_sem] max2_int min2_int max_two min_two max_three min_three max_four min_four
attribute [local go_sem high] Go.Proofs.YtinjibbjlcfkaaaDoor.Bs.gtr_bl Go.Proofs.YtinjibbjlcfkaaaDoor.Bs.leq_bl
set_option linter.unusedVariables false
set_option linter.unusedSimpArgs false
attribute [local go_sem high] eqA35
def instarref04_Same.l0 : Nat → List (S35) → List (S35) → Int → Option (Bool)
  | 0, _, _, _ => none
  | k + 1, x0, x1, x5 => if x5 < (x0.length : Int) then (if 0 ≤ x5 then (if x5 < (x1.length : Int) then (if (!(((rd_T35 x0 x5).f0) == ((rd_T35 x1 x5).f0)) || (!(((rd_T35 x0 x5).f1) == ((rd_T35 x1 x5).f1)) || (!((((rd_T35 x0 x5).f2).toList) == (((rd_T35 x1 x5).f2).toList))))) = true then (some false) else (instarref04_Same.l0 k x0 x1 (wrap64 (x5 + 1)))) else (none)) else (none)) else (some true)
def instarref04_Same.f (k : Nat) (l0 : List (S35)) (l1 : List (S35)) : Option (Bool) := if (l0.length : Int) = (l1.length : Int) then (instarref04_Same.l0 k l0 l1 0) else (some false)
theorem instarref04_Same.mono_l : ∀ k, (∀ y0 y1 y2, LeO (instarref04_Same.l0 k y0 y1 y2) (instarref04_Same.l0 (k + 1) y0 y1 y2))
  | 0 => fun _ _ _ r h => by simp [instarref04_Same.l0] at h
  | k + 1 => by
    have ih0 := instarref04_Same.mono_l k
    · intro y0 y1 y2
      unfold instarref04_Same.l0
      repeat' first
      | (with_reducible exact ih0 _ _ _)
      | (with_reducible exact LeO.refl _)
      | (with_reducible exact LeO.none _)
      | (with_reducible refine LeO.ite ?_ ?_)
      | (with_reducible refine LeO.bind ?_ (fun _ => ?_))
      | exact ih0 _ _ _
      | exact LeO.none _
      | refine LeO.ite ?_ ?_
      | refine LeO.bind ?_ (fun _ => ?_)
theorem instarref04_Same.mono : ∀ a0 a1 k, LeO (instarref04_Same.f k a0 a1) (instarref04_Same.f (k + 1) a0 a1) := by
  intro a0 a1 k
  have ih0 := instarref04_Same.mono_l k
  unfold instarref04_Same.f
  repeat' first
      | (with_reducible exact ih0 _ _ _)
      | (with_reducible exact LeO.refl _)
      | (with_reducible exact LeO.none _)
      | (with_reducible refine LeO.ite ?_ ?_)
      | (with_reducible refine LeO.bind ?_ (fun _ => ?_))
      | exact ih0 _ _ _
      | exact LeO.none _
      | refine LeO.ite ?_ ?_
      | refine LeO.bind ?_ (fun _ => ?_)
set_option maxHeartbeats 8000000 in
set_option maxRecDepth 100000 in
theorem instarref04_Same.calls (k : Nat) (A0 : Option Addr) (c0 : Nat) (l0 : List (S35)) (A1 : Option Addr) (c1 : Nat) (l1 : List (S35)) (r : Bool) (w : World) (hr0 : Kd.C k35 w A0 l0.length l0) (hc0 : l0.length ≤ c0) (hr1 : Kd.C k35 w A1 l1.length l1) (hc1 : l1.length ≤ c1) (h : instarref04_Same.f k l0 l1 = some r) :
    Calls Tryd.prog 25 #[.slice A0 l0.length c0, .slice A1 l1.length c1] w fun e w' => e = .returned (.bool r) ∧ Drawn0 w w' := by
  have hu35 := Tryd.underlying35
  have HR0 := Aside0.mk hr0
  have HC0 := Aside0.mk hc0
  clear hr0 hc0
  have HR1 := Aside0.mk hr1
  have HC1 := Aside0.mk hc1
  clear hr1 hc1
  have H : (if (l0.length : Int) = (l1.length : Int) then (instarref04_Same.l0 k l0 l1 0) else (some false)) = some r := h
  clear h
  by_cases c3 : (l0.length : Int) = (l1.length : Int)
  · rw [if_pos c3] at H
    have c3b0 : ((l0.length : Int) == (l1.length : Int)) = true := beq_iff_eq.mpr c3
    have c3b1 : ((l0.length : Int) != (l1.length : Int)) = false := bne_eq_false_iff_eq.mpr c3
    have c3b2 : (l0.length == l1.length) = true := by first | simpa using c3 | (simp at c3 ⊢; omega)
    clear c3
    have H' := Aside0.mk H
    clear H
    go_enter Tryd.func25, Tryd.ntmps25
    go_wp2
    repeat (go_quiet (fail); try go_wp2)
    go_loopg [5] k (fun kq v5 w' => ∃ (x5_1 : Int), v5 = .int .i64 x5_1 ∧ Aside0 (instarref04_Same.l0 kq l0 l1 x5_1 = some r) ∧ Aside0 (kq ≤ k) ∧ Drawn0 w w')
    case atStart => exact ⟨(0), (by first | rfl | (simp; done) | (simp [*]; done) | (simp [Go.Proofs.YtinjibbjlcfkaaaDoor.Bs.isEmpty_bne, Go.Proofs.YtinjibbjlcfkaaaDoor.Bs.isEmpty_beq]; done)), H', ⟨Nat.le_refl _⟩, by repeat (first | exact Drawn0.refl _ | apply Drawn0.step)⟩
    case round =>
      clear H'
      try clear c1
      try clear c2
      try clear p2
      try clear c3
      try clear c3b0
      try clear c3b1
      try clear c3b2
      obtain ⟨x5_1, rfl, HA, HK1, ⟨m1, rfl⟩⟩ := hrel
      cases gk with
      | zero => exact absurd HA.out (by simp [instarref04_Same.l0])
      | succ k1 =>
        have H := HA.out
        clear HA
        simp only [instarref04_Same.l0] at H
        by_cases c4 : x5_1 < (l0.length : Int)
        · rw [if_pos c4] at H
          have c4b0 : decide (x5_1 < (l0.length : Int)) = true := decide_eq_true c4
          clear c4
          by_cases c5 : 0 ≤ x5_1
          · rw [if_pos c5] at H
            have c5b0 : decide (0 ≤ x5_1) = true := decide_eq_true c5
            clear c5
            by_cases c6 : x5_1 < (l1.length : Int)
            · rw [if_pos c6] at H
              have c6b0 : decide (x5_1 < (l1.length : Int)) = true := decide_eq_true c6
              clear c6
              by_cases c7 : (!(((rd_T35 l0 x5_1).f0) == ((rd_T35 l1 x5_1).f0)) || (!(((rd_T35 l0 x5_1).f1) == ((rd_T35 l1 x5_1).f1)) || (!((((rd_T35 l0 x5_1).f2).toList) == (((rd_T35 l1 x5_1).f2).toList))))) = true
              · rw [if_pos c7] at H
                have c7b0 : (!(((rd_T35 l0 x5_1).f0) == ((rd_T35 l1 x5_1).f0)) || (!(((rd_T35 l0 x5_1).f1) == ((rd_T35 l1 x5_1).f1)) || (!((((rd_T35 l0 x5_1).f2).toList) == (((rd_T35 l1 x5_1).f2).toList))))) = true := c7
                clear c7
                obtain rfl := Option.some.inj H
                have p101 : 0 ≤ (x5_1 : Int) := of_decide_eq_true (by first | (with_reducible assumption) | assumption)
                have q101 : x5_1 < (l0.length : Int) := of_decide_eq_true (by first | (with_reducible assumption) | assumption)
                obtain ⟨ad101, e101, hx101_0, hx101_1, hx101_2⟩ := at_T35 HR0.out x5_1 p101 q101
                cases e101
                replace p101 := eq_true p101
                replace q101 := eq_true q101
                have p102 : 0 ≤ (x5_1 : Int) := of_decide_eq_true (by first | (with_reducible assumption) | assumption)
                have q102 : x5_1 < (l1.length : Int) := of_decide_eq_true (by first | (with_reducible assumption) | assumption)
                obtain ⟨ad102, e102, hx102_0, hx102_1, hx102_2⟩ := at_T35 HR1.out x5_1 p102 q102
                cases e102
                replace p102 := eq_true p102
                replace q102 := eq_true q102
                go_wp2
                repeat (go_quiet (fail); try go_wp2)
                go_ret
                exact ⟨by first | rfl | (simp; done) | (simp [*]; done) | (simp [Go.Proofs.YtinjibbjlcfkaaaDoor.Bs.isEmpty_bne, Go.Proofs.YtinjibbjlcfkaaaDoor.Bs.isEmpty_beq]; done), by repeat (first | exact Drawn0.refl _ | apply Drawn0.step)⟩
              · rw [if_neg c7] at H
                have c7b0 : (!(((rd_T35 l0 x5_1).f0) == ((rd_T35 l1 x5_1).f0)) || (!(((rd_T35 l0 x5_1).f1) == ((rd_T35 l1 x5_1).f1)) || (!((((rd_T35 l0 x5_1).f2).toList) == (((rd_T35 l1 x5_1).f2).toList))))) = false := by simpa using c7
                clear c7
                have H' := Aside0.mk H
                clear H
                have p101 : 0 ≤ (x5_1 : Int) := of_decide_eq_true (by first | (with_reducible assumption) | assumption)
                have q101 : x5_1 < (l0.length : Int) := of_decide_eq_true (by first | (with_reducible assumption) | assumption)
                obtain ⟨ad101, e101, hx101_0, hx101_1, hx101_2⟩ := at_T35 HR0.out x5_1 p101 q101
                cases e101
                replace p101 := eq_true p101
                replace q101 := eq_true q101
                have p102 : 0 ≤ (x5_1 : Int) := of_decide_eq_true (by first | (with_reducible assumption) | assumption)
                have q102 : x5_1 < (l1.length : Int) := of_decide_eq_true (by first | (with_reducible assumption) | assumption)
                obtain ⟨ad102, e102, hx102_0, hx102_1, hx102_2⟩ := at_T35 HR1.out x5_1 p102 q102
                cases e102
                replace p102 := eq_true p102
                replace q102 := eq_true q102
                go_wp2
                repeat (go_quiet (fail); try go_wp2)
                go_roundg k1
                case measure => have := HK1.out; omega
                case rel => exact ⟨(wrap64 (x5_1 + 1)), (by first | rfl | (simp; done) | (simp [*]; done) | (simp [Go.Proofs.YtinjibbjlcfkaaaDoor.Bs.isEmpty_bne, Go.Proofs.YtinjibbjlcfkaaaDoor.Bs.isEmpty_beq]; done)), H', ⟨by have := HK1.out; omega⟩, by repeat (first | exact Drawn0.refl _ | apply Drawn0.step)⟩
            · rw [if_neg c6] at H
              exact absurd H (by simp)
          · rw [if_neg c5] at H
            exact absurd H (by simp)
        · rw [if_neg c4] at H
          have c4b0 : decide (x5_1 < (l0.length : Int)) = false := decide_eq_false c4
          clear c4
          obtain rfl := Option.some.inj H
          go_wp2
          repeat (go_quiet (fail); try go_wp2)
          go_ret
          exact ⟨by first | rfl | (simp; done) | (simp [*]; done) | (simp [Go.Proofs.YtinjibbjlcfkaaaDoor.Bs.isEmpty_bne, Go.Proofs.YtinjibbjlcfkaaaDoor.Bs.isEmpty_beq]; done), by repeat (first | exact Drawn0.refl _ | apply Drawn0.step)⟩
  · rw [if_neg c3] at H
    have c3b0 : ((l0.length : Int) == (l1.length : Int)) = false := beq_eq_false_iff_ne.mpr c3
    have c3b1 : ((l0.length : Int) != (l1.length : Int)) = true := bne_iff_ne.mpr c3
    have c3b2 : (l0.length == l1.length) = false := by first | simpa using c3 | (simp at c3 ⊢; omega)
    obtain rfl := Option.some.inj H
    go_enter Tryd.func25, Tryd.ntmps25
    go_wp2
    repeat (go_quiet (fail); try go_wp2)
    go_ret
    exact ⟨by first | rfl | (simp; done) | (simp [*]; done) | (simp [Go.Proofs.YtinjibbjlcfkaaaDoor.Bs.isEmpty_bne, Go.Proofs.YtinjibbjlcfkaaaDoor.Bs.isEmpty_beq]; done), by repeat (first | exact Drawn0.refl _ | apply Drawn0.step)⟩
def instarref05_Same.f (k : Nat) (l0 : List (S35)) (l1 : List (S35)) : Option (Bool) := (instarref04_Same.f k l0 l1).bind fun t101 => (some t101)
theorem instarref05_Same.mono : ∀ a0 a1 k, LeO (instarref05_Same.f k a0 a1) (instarref05_Same.f (k + 1) a0 a1) := by
  intro a0 a1 k
  unfold instarref05_Same.f
  repeat' first
      | (with_reducible exact instarref04_Same.mono _ _ _)
      | (with_reducible exact LeO.refl _)
      | (with_reducible exact LeO.none _)
      | (with_reducible refine LeO.ite ?_ ?_)
      | (with_reducible refine LeO.bind ?_ (fun _ => ?_))
      | exact instarref04_Same.mono _ _ _
      | exact LeO.none _
      | refine LeO.ite ?_ ?_
      | refine LeO.bind ?_ (fun _ => ?_)
set_option maxHeartbeats 8000000 in
set_option maxRecDepth 100000 in
theorem instarref05_Same.calls (k : Nat) (A0 : Option Addr) (c0 : Nat) (l0 : List (S35)) (A1 : Option Addr) (c1 : Nat) (l1 : List (S35)) (r : Bool) (w : World) (hr0 : Kd.C k35 w A0 l0.length l0) (hc0 : l0.length ≤ c0) (hr1 : Kd.C k35 w A1 l1.length l1) (hc1 : l1.length ≤ c1) (h : instarref05_Same.f k l0 l1 = some r) :
    Calls Tryd.prog 11 #[.slice A0 l0.length c0, .slice A1 l1.length c1] w fun e w' => e = .returned (.bool r) ∧ Drawn0 w w' := by
  have HR0 := Aside0.mk hr0
  have HC0 := Aside0.mk hc0
  clear hr0 hc0
  have HR1 := Aside0.mk hr1
  have HC1 := Aside0.mk hc1
  clear hr1 hc1
  have H : ((instarref04_Same.f k l0 l1).bind fun t101 => (some t101)) = some r := h
  clear h
  replace H := Option.bind_eq_some_iff.mp H
  obtain ⟨t101, A30, H⟩ := H
  replace H : (some t101) = some r := H
  have A3 := Aside0.mk A30
  clear A30
  obtain rfl := Option.some.inj H
  go_enter Tryd.func11, Tryd.ntmps11
  go_wp2_with (first | ((with_reducible refine gate_callee (f := 25) rfl ?_); refine goesL_ (some 7) rfl rfl Tryd.func25 (by kernel_rfl) rfl #[.slice A0 l0.length c0, .slice A1 l1.length c1] rfl (by (try simp only [List.map_toArray, List.map_cons, List.map_nil]); first | done | rfl | (simp only [List.length_drop, List.length_take]; rfl)) ?_; (with_reducible refine (instarref04_Same.calls k _ _ l0 _ _ l1 t101 _ ?side1 ?side2 ?side3 ?side4 A3.out).mono ?_); (case side1 => repeat (first | exact HR0.out | (with_reducible refine Kd.C_alloc ?_ _) | (with_reducible refine Kd.C_drewN ?_ _) | (with_reducible refine Kd.C_drew ?_))); (case side2 => exact HC0.out); (case side3 => repeat (first | exact HR1.out | (with_reducible refine Kd.C_alloc ?_ _) | (with_reducible refine Kd.C_drewN ?_ _) | (with_reducible refine Kd.C_drew ?_))); (case side4 => exact HC1.out); rintro e w' ⟨rfl, ⟨nd, rfl⟩⟩; refine ⟨_, rfl, ?_⟩))
  go_ret
  exact ⟨by first | rfl | (simp; done) | (simp [*]; done) | (simp [Go.Proofs.YtinjibbjlcfkaaaDoor.Bs.isEmpty_bne, Go.Proofs.YtinjibbjlcfkaaaDoor.Bs.isEmpty_beq]; done), by repeat (first | exact Drawn0.refl _ | apply Drawn0.step)⟩
def instarlaw05_RowTells.j0 : Nat → List (S35) → List (S35) → List Int → Bool → Option (Bool)
  | 0, _, _, _, _ => none
  | k + 1, x0, x1, x2, x23 => if x23 = true then ((instarlaw05_alive.f k).bind fun t103 => (some t103)) else ((instarlaw05_alive.f k).bind fun t104 => (if t104 = true then ((row_Right.f k x0).bind fun t105 => ((instarref05_Right.f k x0).bind fun t106 => (if (t105 == t106) = true then ((row_Show.f k x0).bind fun t107 => ((instarref05_Show.f k x0).bind fun t108 => (if t107.toList = t108.toList then ((row_Key.f k x0).bind fun t109 => ((instarref05_Key.f k x0).bind fun t110 => (if t109.toList = t110.toList then ((row_Fits.f k x0 x2).bind fun t111 => ((instarref05_Fits.f k x0 x2).bind fun t112 => (if (t111 == t112) = true then ((row_Compare.f k x0 x1).bind fun t113 => ((instarref05_Compare.f k x0 x1).bind fun t114 => (if t113 = t114 then ((row_Same.f k x0 x1).bind fun t115 => ((instarref05_Same.f k x0 x1).bind fun t116 => (some (t115 == t116)))) else (some false)))) else (some false)))) else (some false)))) else (some false)))) else (some false)))) else (some false)))
def instarlaw05_RowTells.f (k : Nat) (l0 : List (S35)) (l1 : List (S35)) (l2 : List Int) : Option (Bool) := (instarlaw05_Small.f k l0).bind fun t101 => ((instarlaw05_Small.f k l1).bind fun t102 => (if t101 = true then (if t102 = true then (instarlaw05_RowTells.j0 k l0 l1 l2 (decide ((l2.length : Int) > 30))) else (instarlaw05_RowTells.j0 k l0 l1 l2 true)) else (instarlaw05_RowTells.j0 k l0 l1 l2 true)))
theorem instarlaw05_RowTells.mono_l : ∀ k, (∀ y0 y1 y2 y3, LeO (instarlaw05_RowTells.j0 k y0 y1 y2 y3) (instarlaw05_RowTells.j0 (k + 1) y0 y1 y2 y3))
  | 0 => fun _ _ _ _ r h => by simp [instarlaw05_RowTells.j0] at h
  | k + 1 => by
    have ih0 := instarlaw05_RowTells.mono_l k
    · intro y0 y1 y2 y3
      unfold instarlaw05_RowTells.j0
      repeat' first
      | (with_reducible exact ih0 _ _ _ _)
      | (with_reducible exact instarlaw05_Small.mono _ _)
      | (with_reducible exact instarlaw05_alive.mono _)
      | (with_reducible exact instarref05_Compare.mono _ _ _)
      | (with_reducible exact instarref05_Fits.mono _ _ _)
      | (with_reducible exact instarref05_Key.mono _ _)
      | (with_reducible exact instarref05_Right.mono _ _)
      | (with_reducible exact instarref05_Same.mono _ _ _)
      | (with_reducible exact instarref05_Show.mono _ _)
      | (with_reducible exact row_Compare.mono _ _ _)
      | (with_reducible exact row_Fits.mono _ _ _)
      | (with_reducible exact row_Key.mono _ _)
      | (with_reducible exact row_Right.mono _ _)
      | (with_reducible exact row_Same.mono _ _ _)
      | (with_reducible exact row_Show.mono _ _)
      | (with_reducible exact LeO.refl _)
      | (with_reducible exact LeO.none _)
      | (with_reducible refine LeO.ite ?_ ?_)
      | (with_reducible refine LeO.bind ?_ (fun _ => ?_))
      | exact ih0 _ _ _ _
      | exact instarlaw05_Small.mono _ _
      | exact instarlaw05_alive.mono _
      | exact instarref05_Compare.mono _ _ _
      | exact instarref05_Fits.mono _ _ _
      | exact instarref05_Key.mono _ _
      | exact instarref05_Right.mono _ _
      | exact instarref05_Same.mono _ _ _
      | exact instarref05_Show.mono _ _
      | exact row_Compare.mono _ _ _
      | exact row_Fits.mono _ _ _
      | exact row_Key.mono _ _
      | exact row_Right.mono _ _
      | exact row_Same.mono _ _ _
      | exact row_Show.mono _ _
      | exact LeO.none _
      | refine LeO.ite ?_ ?_
      | refine LeO.bind ?_ (fun _ => ?_)
theorem instarlaw05_RowTells.mono : ∀ a0 a1 a2 k, LeO (instarlaw05_RowTells.f k a0 a1 a2) (instarlaw05_RowTells.f (k + 1) a0 a1 a2) := by
  intro a0 a1 a2 k
  have ih0 := instarlaw05_RowTells.mono_l k
  unfold instarlaw05_RowTells.f
  repeat' first
      | (with_reducible exact ih0 _ _ _ _)
      | (with_reducible exact instarlaw05_Small.mono _ _)
      | (with_reducible exact instarlaw05_alive.mono _)
      | (with_reducible exact instarref05_Compare.mono _ _ _)
      | (with_reducible exact instarref05_Fits.mono _ _ _)
      | (with_reducible exact instarref05_Key.mono _ _)
      | (with_reducible exact instarref05_Right.mono _ _)
      | (with_reducible exact instarref05_Same.mono _ _ _)
      | (with_reducible exact instarref05_Show.mono _ _)
      | (with_reducible exact row_Compare.mono _ _ _)
      | (with_reducible exact row_Fits.mono _ _ _)
      | (with_reducible exact row_Key.mono _ _)
      | (with_reducible exact row_Right.mono _ _)
      | (with_reducible exact row_Same.mono _ _ _)
      | (with_reducible exact row_Show.mono _ _)
      | (with_reducible exact LeO.refl _)
      | (with_reducible exact LeO.none _)
      | (with_reducible refine LeO.ite ?_ ?_)
      | (with_reducible refine LeO.bind ?_ (fun _ => ?_))
      | exact ih0 _ _ _ _
      | exact instarlaw05_Small.mono _ _
      | exact instarlaw05_alive.mono _
      | exact instarref05_Compare.mono _ _ _
      | exact instarref05_Fits.mono _ _ _
      | exact instarref05_Key.mono _ _
      | exact instarref05_Right.mono _ _
      | exact instarref05_Same.mono _ _ _
      | exact instarref05_Show.mono _ _
      | exact row_Compare.mono _ _ _
      | exact row_Fits.mono _ _ _
      | exact row_Key.mono _ _
      | exact row_Right.mono _ _
      | exact row_Same.mono _ _ _
      | exact row_Show.mono _ _
      | exact LeO.none _
      | refine LeO.ite ?_ ?_
      | refine LeO.bind ?_ (fun _ => ?_)
set_option maxHeartbeats 8000000 in
set_option maxRecDepth 100000 in
theorem instarlaw05_RowTells.calls (k : Nat) (A0 : Option Addr) (c0 : Nat) (l0 : List (S35)) (A1 : Option Addr) (c1 : Nat) (l1 : List (S35)) (A2 : Option Addr) (c2 : Nat) (l2 : List Int) (r : Bool) (w : World) (hr0 : Kd.C k35 w A0 l0.length l0) (hc0 : l0.length ≤ c0) (hr1 : Kd.C k35 w A1 l1.length l1) (hc1 : l1.length ≤ c1) (hr2 : Kd.C (Kd.int .i64) w A2 l2.length l2) (hc2 : l2.length ≤ c2) (hG : Go.Proofs.YtinjibbjlcfkaaaDoor.Bs.Gl w) (hr_ : Aside0 (r = true)) (h : instarlaw05_RowTells.f k l0 l1 l2 = some r) :
    Calls Tryd.prog 4 #[.slice A0 l0.length c0, .slice A1 l1.length c1, .slice A2 l2.length c2] w fun e w' => e = .returned (.bool r) ∧ Below w.heap.size w w' := by
  have HR0 := Aside0.mk hr0
  have HC0 := Aside0.mk hc0
  clear hr0 hc0
  have HR1 := Aside0.mk hr1
  have HC1 := Aside0.mk hc1
  clear hr1 hc1
  have HR2 := Aside0.mk hr2
  have HC2 := Aside0.mk hc2
  clear hr2 hc2
  have HB := Aside0.mk (Below.refl w.heap.size w)
  have H : ((instarlaw05_Small.f k l0).bind fun t101 => ((instarlaw05_Small.f k l1).bind fun t102 => (if t101 = true then (if t102 = true then (instarlaw05_RowTells.j0 k l0 l1 l2 (decide ((l2.length : Int) > 30))) else (instarlaw05_RowTells.j0 k l0 l1 l2 true)) else (instarlaw05_RowTells.j0 k l0 l1 l2 true)))) = some r := h
  clear h
  replace H := Option.bind_eq_some_iff.mp H
  obtain ⟨t101, A40, H⟩ := H
  replace H : ((instarlaw05_Small.f k l1).bind fun t102 => (if t101 = true then (if t102 = true then (instarlaw05_RowTells.j0 k l0 l1 l2 (decide ((l2.length : Int) > 30))) else (instarlaw05_RowTells.j0 k l0 l1 l2 true)) else (instarlaw05_RowTells.j0 k l0 l1 l2 true))) = some r := H
  have A4 := Aside0.mk A40
  clear A40
  replace H := Option.bind_eq_some_iff.mp H
  obtain ⟨t102, A50, H⟩ := H
  replace H : (if t101 = true then (if t102 = true then (instarlaw05_RowTells.j0 k l0 l1 l2 (decide ((l2.length : Int) > 30))) else (instarlaw05_RowTells.j0 k l0 l1 l2 true)) else (instarlaw05_RowTells.j0 k l0 l1 l2 true)) = some r := H
  have A5 := Aside0.mk A50
  clear A50
  have HC6 := Aside0.mk H
  clear H
  go_enter Tryd.func4, Tryd.ntmps4
  go_upto_region 3 with (first | ((with_reducible refine gate_callee (f := 8) rfl ?_); refine goesL_ (some 10) rfl rfl Tryd.func8 (by kernel_rfl) rfl #[.slice A0 l0.length c0] rfl (by (try simp only [List.map_toArray, List.map_cons, List.map_nil]); first | done | rfl | (simp only [List.length_drop, List.length_take]; rfl)) ?_; (with_reducible refine (instarlaw05_Small.calls k _ _ l0 t101 _ ?side1 ?side2 A4.out).mono ?_); (case side1 => repeat (first | exact HR0.out | (with_reducible refine Kd.C_alloc ?_ _) | (with_reducible refine Kd.C_drewN ?_ _) | (with_reducible refine Kd.C_drew ?_))); (case side2 => exact HC0.out); rintro e w' ⟨rfl, ⟨nd, rfl⟩⟩; refine ⟨_, rfl, ?_⟩) | ((with_reducible refine gate_callee (f := 8) rfl ?_); refine goesL_ (some 12) rfl rfl Tryd.func8 (by kernel_rfl) rfl #[.slice A1 l1.length c1] rfl (by (try simp only [List.map_toArray, List.map_cons, List.map_nil]); first | done | rfl | (simp only [List.length_drop, List.length_take]; rfl)) ?_; (with_reducible refine (instarlaw05_Small.calls k _ _ l1 t102 _ ?side1 ?side2 A5.out).mono ?_); (case side1 => repeat (first | exact HR1.out | (with_reducible refine Kd.C_alloc ?_ _) | (with_reducible refine Kd.C_drewN ?_ _) | (with_reducible refine Kd.C_drew ?_))); (case side2 => exact HC1.out); rintro e w' ⟨rfl, ⟨nd, rfl⟩⟩; refine ⟨_, rfl, ?_⟩))
  (try simp only [Act.put, List.setIfInBounds_toArray, List.set_cons_zero, List.set_cons_succ])
  go_cut [23] (fun v23 wc => ∃ (kq : Nat) (x23_5 : Bool), v23 = .bool x23_5 ∧ Aside0 (instarlaw05_RowTells.j0 kq l0 l1 l2 x23_5 = some r) ∧ Aside0 (kq ≤ k) ∧ Aside0 (Below w.heap.size w wc))
  case first =>
    have H := HC6.out
    clear HC6
    by_cases c7 : t101 = true
    · subst c7
      have H1 : (if t102 = true then (instarlaw05_RowTells.j0 k l0 l1 l2 (decide ((l2.length : Int) > 30))) else (instarlaw05_RowTells.j0 k l0 l1 l2 true)) = some r := by rw [if_pos rfl] at H; exact H
      clear H
      have H := H1
      clear H1
      by_cases c8 : t102 = true
      · subst c8
        have H1 : (instarlaw05_RowTells.j0 k l0 l1 l2 (decide ((l2.length : Int) > 30))) = some r := by rw [if_pos rfl] at H; exact H
        clear H
        have H := H1
        clear H1
        have H' := Aside0.mk H
        clear H
        go_wp2
        go_meet
        case rel => exact ⟨_, (decide ((l2.length : Int) > 30)), (by first | rfl | (simp; done) | (simp [*]; done) | (simp [Go.Proofs.YtinjibbjlcfkaaaDoor.Bs.isEmpty_bne, Go.Proofs.YtinjibbjlcfkaaaDoor.Bs.isEmpty_beq]; done)), H', ⟨by first | omega | exact Nat.le_refl _⟩, ⟨by repeat (first | (with_reducible first | exact HB.out | apply below_alloc | apply pw_below_drewN | apply below_drew1) | exact HB.out)⟩⟩
      · replace c8 := Bool.eq_false_iff.mpr c8
        subst c8
        have H1 : (instarlaw05_RowTells.j0 k l0 l1 l2 true) = some r := by rw [if_neg (show ¬ (false = true) by decide)] at H; exact H
        clear H
        have H := H1
        clear H1
        have H' := Aside0.mk H
        clear H
        go_wp2
        go_meet
        case rel => exact ⟨_, (true), (by first | rfl | (simp; done) | (simp [*]; done) | (simp [Go.Proofs.YtinjibbjlcfkaaaDoor.Bs.isEmpty_bne, Go.Proofs.YtinjibbjlcfkaaaDoor.Bs.isEmpty_beq]; done)), H', ⟨by first | omega | exact Nat.le_refl _⟩, ⟨by repeat (first | (with_reducible first | exact HB.out | apply below_alloc | apply pw_below_drewN | apply below_drew1) | exact HB.out)⟩⟩
    · replace c7 := Bool.eq_false_iff.mpr c7
      subst c7
      have H1 : (instarlaw05_RowTells.j0 k l0 l1 l2 true) = some r := by rw [if_neg (show ¬ (false = true) by decide)] at H; exact H
      clear H
      have H := H1
      clear H1
      have H' := Aside0.mk H
      clear H
      go_wp2
      go_meet
      case rel => exact ⟨_, (true), (by first | rfl | (simp; done) | (simp [*]; done) | (simp [Go.Proofs.YtinjibbjlcfkaaaDoor.Bs.isEmpty_bne, Go.Proofs.YtinjibbjlcfkaaaDoor.Bs.isEmpty_beq]; done)), H', ⟨by first | omega | exact Nat.le_refl _⟩, ⟨by repeat (first | (with_reducible first | exact HB.out | apply below_alloc | apply pw_below_drewN | apply below_drew1) | exact HB.out)⟩⟩
  case rest =>
    clear HC6
    try clear c1
    try clear c2
    try clear p2
    try clear c4
    try clear c7
    try clear c8
    obtain ⟨kq, x23_5, rfl, HA, HJ5, HB⟩ := hcut
    cases kq with
    | zero => exact absurd HA.out (by simp [instarlaw05_RowTells.j0])
    | succ kj5 =>
      have H := HA.out
      clear HA
      simp only [instarlaw05_RowTells.j0] at H
      by_cases c9 : x23_5 = true
      · subst c9
        have H1 : ((instarlaw05_alive.f kj5).bind fun t103 => (some t103)) = some r := by rw [if_pos rfl] at H; exact H
        clear H
        have H := H1
        clear H1
        replace H := Option.bind_eq_some_iff.mp H
        obtain ⟨t103, A100, H⟩ := H
        replace H : (some t103) = some r := H
        have A10 := Aside0.mk A100
        clear A100
        obtain rfl := Option.some.inj H
        go_wp2_with (first | ((with_reducible refine gate_callee (f := 7) rfl ?_); refine goesL_ (some 24) rfl rfl Tryd.func7 (by kernel_rfl) rfl #[] rfl (by (try simp only [List.map_toArray, List.map_cons, List.map_nil]); first | done | rfl | (simp only [List.length_drop, List.length_take]; rfl)) ?_; (with_reducible refine (instarlaw05_alive.calls kj5  t103 _ ?side1 A10.out).mono ?_); (case side1 => first | exact hG | exact Go.Proofs.YtinjibbjlcfkaaaDoor.Bs.Gl.below hG (by repeat (first | (with_reducible first | exact HB.out | apply below_alloc | apply pw_below_drewN | apply below_drew1) | exact HB.out)) | (repeat (first | exact hG | refine Go.Proofs.YtinjibbjlcfkaaaDoor.Bs.Gl.drewN ?_ _))); rintro e w11 ⟨rfl, hb⟩; refine ⟨_, rfl, ?_⟩; have n0_ := Aside0.mk (below_step (by repeat (first | (with_reducible first | exact HB.out | apply below_alloc | apply pw_below_drewN | apply below_drew1) | exact HB.out)) hb); clear HB; have HB := n0_; clear n0_; (try clear hb); (try clear hb2); (try clear hk); (try clear hi)))
        go_ret
        exact ⟨by first | rfl | (simp [errW_none, errW_some] <;> rfl) | (simp [*, errW_none, errW_some] <;> rfl), by repeat (first | (with_reducible first | exact HB.out | apply below_alloc | apply pw_below_drewN | apply below_drew1) | exact HB.out)⟩
      · replace c9 := Bool.eq_false_iff.mpr c9
        subst c9
        have H1 : ((instarlaw05_alive.f kj5).bind fun t104 => (if t104 = true then ((row_Right.f kj5 l0).bind fun t105 => ((instarref05_Right.f kj5 l0).bind fun t106 => (if (t105 == t106) = true then ((row_Show.f kj5 l0).bind fun t107 => ((instarref05_Show.f kj5 l0).bind fun t108 => (if t107.toList = t108.toList then ((row_Key.f kj5 l0).bind fun t109 => ((instarref05_Key.f kj5 l0).bind fun t110 => (if t109.toList = t110.toList then ((row_Fits.f kj5 l0 l2).bind fun t111 => ((instarref05_Fits.f kj5 l0 l2).bind fun t112 => (if (t111 == t112) = true then ((row_Compare.f kj5 l0 l1).bind fun t113 => ((instarref05_Compare.f kj5 l0 l1).bind fun t114 => (if t113 = t114 then ((row_Same.f kj5 l0 l1).bind fun t115 => ((instarref05_Same.f kj5 l0 l1).bind fun t116 => (some (t115 == t116)))) else (some false)))) else (some false)))) else (some false)))) else (some false)))) else (some false)))) else (some false))) = some r := by rw [if_neg (show ¬ (false = true) by decide)] at H; exact H
        clear H
        have H := H1
        clear H1
        replace H := Option.bind_eq_some_iff.mp H
        obtain ⟨t104, A120, H⟩ := H
        replace H : (if t104 = true then ((row_Right.f kj5 l0).bind fun t105 => ((instarref05_Right.f kj5 l0).bind fun t106 => (if (t105 == t106) = true then ((row_Show.f kj5 l0).bind fun t107 => ((instarref05_Show.f kj5 l0).bind fun t108 => (if t107.toList = t108.toList then ((row_Key.f kj5 l0).bind fun t109 => ((instarref05_Key.f kj5 l0).bind fun t110 => (if t109.toList = t110.toList then ((row_Fits.f kj5 l0 l2).bind fun t111 => ((instarref05_Fits.f kj5 l0 l2).bind fun t112 => (if (t111 == t112) = true then ((row_Compare.f kj5 l0 l1).bind fun t113 => ((instarref05_Compare.f kj5 l0 l1).bind fun t114 => (if t113 = t114 then ((row_Same.f kj5 l0 l1).bind fun t115 => ((instarref05_Same.f kj5 l0 l1).bind fun t116 => (some (t115 == t116)))) else (some false)))) else (some false)))) else (some false)))) else (some false)))) else (some false)))) else (some false)) = some r := H
        have A12 := Aside0.mk A120
        clear A120
        by_cases c13 : t104 = true
        · subst c13
          have H1 : ((row_Right.f kj5 l0).bind fun t105 => ((instarref05_Right.f kj5 l0).bind fun t106 => (if (t105 == t106) = true then ((row_Show.f kj5 l0).bind fun t107 => ((instarref05_Show.f kj5 l0).bind fun t108 => (if t107.toList = t108.toList then ((row_Key.f kj5 l0).bind fun t109 => ((instarref05_Key.f kj5 l0).bind fun t110 => (if t109.toList = t110.toList then ((row_Fits.f kj5 l0 l2).bind fun t111 => ((instarref05_Fits.f kj5 l0 l2).bind fun t112 => (if (t111 == t112) = true then ((row_Compare.f kj5 l0 l1).bind fun t113 => ((instarref05_Compare.f kj5 l0 l1).bind fun t114 => (if t113 = t114 then ((row_Same.f kj5 l0 l1).bind fun t115 => ((instarref05_Same.f kj5 l0 l1).bind fun t116 => (some (t115 == t116)))) else (some false)))) else (some false)))) else (some false)))) else (some false)))) else (some false)))) = some r := by rw [if_pos rfl] at H; exact H
          clear H
          have H := H1
          clear H1
          replace H := Option.bind_eq_some_iff.mp H
          obtain ⟨t105, A140, H⟩ := H
          replace H : ((instarref05_Right.f kj5 l0).bind fun t106 => (if (t105 == t106) = true then ((row_Show.f kj5 l0).bind fun t107 => ((instarref05_Show.f kj5 l0).bind fun t108 => (if t107.toList = t108.toList then ((row_Key.f kj5 l0).bind fun t109 => ((instarref05_Key.f kj5 l0).bind fun t110 => (if t109.toList = t110.toList then ((row_Fits.f kj5 l0 l2).bind fun t111 => ((instarref05_Fits.f kj5 l0 l2).bind fun t112 => (if (t111 == t112) = true then ((row_Compare.f kj5 l0 l1).bind fun t113 => ((instarref05_Compare.f kj5 l0 l1).bind fun t114 => (if t113 = t114 then ((row_Same.f kj5 l0 l1).bind fun t115 => ((instarref05_Same.f kj5 l0 l1).bind fun t116 => (some (t115 == t116)))) else (some false)))) else (some false)))) else (some false)))) else (some false)))) else (some false))) = some r := H
          have A14 := Aside0.mk A140
          clear A140
          replace H := Option.bind_eq_some_iff.mp H
          obtain ⟨t106, A150, H⟩ := H
          replace H : (if (t105 == t106) = true then ((row_Show.f kj5 l0).bind fun t107 => ((instarref05_Show.f kj5 l0).bind fun t108 => (if t107.toList = t108.toList then ((row_Key.f kj5 l0).bind fun t109 => ((instarref05_Key.f kj5 l0).bind fun t110 => (if t109.toList = t110.toList then ((row_Fits.f kj5 l0 l2).bind fun t111 => ((instarref05_Fits.f kj5 l0 l2).bind fun t112 => (if (t111 == t112) = true then ((row_Compare.f kj5 l0 l1).bind fun t113 => ((instarref05_Compare.f kj5 l0 l1).bind fun t114 => (if t113 = t114 then ((row_Same.f kj5 l0 l1).bind fun t115 => ((instarref05_Same.f kj5 l0 l1).bind fun t116 => (some (t115 == t116)))) else (some false)))) else (some false)))) else (some false)))) else (some false)))) else (some false)) = some r := H
          have A15 := Aside0.mk A150
          clear A150
          by_cases c16 : (t105 == t106) = true
          · rw [if_pos c16] at H
            have c16b0 : (t105 == t106) = true := c16
            (try (have c16b1 : decide (t105 = t106) = true := by simpa using c16))
            (try (have c16b2 : (t105 == t106) = true := by simpa using c16))
            clear c16
            replace H := Option.bind_eq_some_iff.mp H
            obtain ⟨t107, A170, H⟩ := H
            replace H : ((instarref05_Show.f kj5 l0).bind fun t108 => (if t107.toList = t108.toList then ((row_Key.f kj5 l0).bind fun t109 => ((instarref05_Key.f kj5 l0).bind fun t110 => (if t109.toList = t110.toList then ((row_Fits.f kj5 l0 l2).bind fun t111 => ((instarref05_Fits.f kj5 l0 l2).bind fun t112 => (if (t111 == t112) = true then ((row_Compare.f kj5 l0 l1).bind fun t113 => ((instarref05_Compare.f kj5 l0 l1).bind fun t114 => (if t113 = t114 then ((row_Same.f kj5 l0 l1).bind fun t115 => ((instarref05_Same.f kj5 l0 l1).bind fun t116 => (some (t115 == t116)))) else (some false)))) else (some false)))) else (some false)))) else (some false))) = some r := H
            have A17 := Aside0.mk A170
            clear A170
            replace H := Option.bind_eq_some_iff.mp H
            obtain ⟨t108, A180, H⟩ := H
            replace H : (if t107.toList = t108.toList then ((row_Key.f kj5 l0).bind fun t109 => ((instarref05_Key.f kj5 l0).bind fun t110 => (if t109.toList = t110.toList then ((row_Fits.f kj5 l0 l2).bind fun t111 => ((instarref05_Fits.f kj5 l0 l2).bind fun t112 => (if (t111 == t112) = true then ((row_Compare.f kj5 l0 l1).bind fun t113 => ((instarref05_Compare.f kj5 l0 l1).bind fun t114 => (if t113 = t114 then ((row_Same.f kj5 l0 l1).bind fun t115 => ((instarref05_Same.f kj5 l0 l1).bind fun t116 => (some (t115 == t116)))) else (some false)))) else (some false)))) else (some false)))) else (some false)) = some r := H
            have A18 := Aside0.mk A180
            clear A180
            by_cases c19 : t107.toList = t108.toList
            · rw [if_pos c19] at H
              have c19b0 : (t107.toList == t108.toList) = true := beq_iff_eq.mpr c19
              have c19b1 : (t107.toList != t108.toList) = false := bne_eq_false_iff_eq.mpr c19
              clear c19
              replace H := Option.bind_eq_some_iff.mp H
              obtain ⟨t109, A200, H⟩ := H
              replace H : ((instarref05_Key.f kj5 l0).bind fun t110 => (if t109.toList = t110.toList then ((row_Fits.f kj5 l0 l2).bind fun t111 => ((instarref05_Fits.f kj5 l0 l2).bind fun t112 => (if (t111 == t112) = true then ((row_Compare.f kj5 l0 l1).bind fun t113 => ((instarref05_Compare.f kj5 l0 l1).bind fun t114 => (if t113 = t114 then ((row_Same.f kj5 l0 l1).bind fun t115 => ((instarref05_Same.f kj5 l0 l1).bind fun t116 => (some (t115 == t116)))) else (some false)))) else (some false)))) else (some false))) = some r := H
              have A20 := Aside0.mk A200
              clear A200
              replace H := Option.bind_eq_some_iff.mp H
              obtain ⟨t110, A210, H⟩ := H
              replace H : (if t109.toList = t110.toList then ((row_Fits.f kj5 l0 l2).bind fun t111 => ((instarref05_Fits.f kj5 l0 l2).bind fun t112 => (if (t111 == t112) = true then ((row_Compare.f kj5 l0 l1).bind fun t113 => ((instarref05_Compare.f kj5 l0 l1).bind fun t114 => (if t113 = t114 then ((row_Same.f kj5 l0 l1).bind fun t115 => ((instarref05_Same.f kj5 l0 l1).bind fun t116 => (some (t115 == t116)))) else (some false)))) else (some false)))) else (some false)) = some r := H
              have A21 := Aside0.mk A210
              clear A210
              by_cases c22 : t109.toList = t110.toList
              · rw [if_pos c22] at H
                have c22b0 : (t109.toList == t110.toList) = true := beq_iff_eq.mpr c22
                have c22b1 : (t109.toList != t110.toList) = false := bne_eq_false_iff_eq.mpr c22
                clear c22
                replace H := Option.bind_eq_some_iff.mp H
                obtain ⟨t111, A230, H⟩ := H
                replace H : ((instarref05_Fits.f kj5 l0 l2).bind fun t112 => (if (t111 == t112) = true then ((row_Compare.f kj5 l0 l1).bind fun t113 => ((instarref05_Compare.f kj5 l0 l1).bind fun t114 => (if t113 = t114 then ((row_Same.f kj5 l0 l1).bind fun t115 => ((instarref05_Same.f kj5 l0 l1).bind fun t116 => (some (t115 == t116)))) else (some false)))) else (some false))) = some r := H
                have A23 := Aside0.mk A230
                clear A230
                replace H := Option.bind_eq_some_iff.mp H
                obtain ⟨t112, A240, H⟩ := H
                replace H : (if (t111 == t112) = true then ((row_Compare.f kj5 l0 l1).bind fun t113 => ((instarref05_Compare.f kj5 l0 l1).bind fun t114 => (if t113 = t114 then ((row_Same.f kj5 l0 l1).bind fun t115 => ((instarref05_Same.f kj5 l0 l1).bind fun t116 => (some (t115 == t116)))) else (some false)))) else (some false)) = some r := H
                have A24 := Aside0.mk A240
                clear A240
                by_cases c25 : (t111 == t112) = true
                · rw [if_pos c25] at H
                  have c25b0 : (t111 == t112) = true := c25
                  (try (have c25b1 : decide (t111 = t112) = true := by simpa using c25))
                  (try (have c25b2 : (t111 == t112) = true := by simpa using c25))
                  clear c25
                  replace H := Option.bind_eq_some_iff.mp H
                  obtain ⟨t113, A260, H⟩ := H
                  replace H : ((instarref05_Compare.f kj5 l0 l1).bind fun t114 => (if t113 = t114 then ((row_Same.f kj5 l0 l1).bind fun t115 => ((instarref05_Same.f kj5 l0 l1).bind fun t116 => (some (t115 == t116)))) else (some false))) = some r := H
                  have A26 := Aside0.mk A260
                  clear A260
                  replace H := Option.bind_eq_some_iff.mp H
                  obtain ⟨t114, A270, H⟩ := H
                  replace H : (if t113 = t114 then ((row_Same.f kj5 l0 l1).bind fun t115 => ((instarref05_Same.f kj5 l0 l1).bind fun t116 => (some (t115 == t116)))) else (some false)) = some r := H
                  have A27 := Aside0.mk A270
                  clear A270
                  by_cases c28 : t113 = t114
                  · rw [if_pos c28] at H
                    have c28b0 : (t113 == t114) = true := beq_iff_eq.mpr c28
                    have c28b1 : (t113 != t114) = false := bne_eq_false_iff_eq.mpr c28
                    clear c28
                    replace H := Option.bind_eq_some_iff.mp H
                    obtain ⟨t115, A290, H⟩ := H
                    replace H : ((instarref05_Same.f kj5 l0 l1).bind fun t116 => (some (t115 == t116))) = some r := H
                    have A29 := Aside0.mk A290
                    clear A290
                    replace H := Option.bind_eq_some_iff.mp H
                    obtain ⟨t116, A300, H⟩ := H
                    replace H : (some (t115 == t116)) = some r := H
                    have A30 := Aside0.mk A300
                    clear A300
                    obtain rfl := Option.some.inj H
                    go_wp2_with (first | ((with_reducible refine gate_callee (f := 7) rfl ?_); refine goesL_ (some 25) rfl rfl Tryd.func7 (by kernel_rfl) rfl #[] rfl (by (try simp only [List.map_toArray, List.map_cons, List.map_nil]); first | done | rfl | (simp only [List.length_drop, List.length_take]; rfl)) ?_; (with_reducible refine (instarlaw05_alive.calls kj5  true _ ?side1 A12.out).mono ?_); (case side1 => first | exact hG | exact Go.Proofs.YtinjibbjlcfkaaaDoor.Bs.Gl.below hG (by repeat (first | (with_reducible first | exact HB.out | apply below_alloc | apply pw_below_drewN | apply below_drew1) | exact HB.out)) | (repeat (first | exact hG | refine Go.Proofs.YtinjibbjlcfkaaaDoor.Bs.Gl.drewN ?_ _))); rintro e w31 ⟨rfl, hb⟩; refine ⟨_, rfl, ?_⟩; have n0_ := Aside0.mk (below_step (by repeat (first | (with_reducible first | exact HB.out | apply below_alloc | apply pw_below_drewN | apply below_drew1) | exact HB.out)) hb); clear HB; have HB := n0_; clear n0_; (try clear hb); (try clear hb2); (try clear hk); (try clear hi)) | (go_at_call 14; (with_reducible refine (row_Right.calls kj5 _ _ l0 t105 _ ?side1 ?side2 A14.out).mono ?_); (case side1 => repeat (first | exact (Kd.C_below HR0.out HB.out) | (with_reducible refine Kd.C_alloc ?_ _) | (with_reducible refine Kd.C_drewN ?_ _) | (with_reducible refine Kd.C_drew ?_))); (case side2 => exact HC0.out); rintro e w32 ⟨rfl, hb⟩; have n0_ := Aside0.mk (below_step (by repeat (first | (with_reducible first | exact HB.out | apply below_alloc | apply pw_below_drewN | apply below_drew1) | exact HB.out)) hb); clear HB; have HB := n0_; clear n0_; (try clear hb); (try clear hb2); (try clear hk); (try clear hi)) | (go_at_call 15; (with_reducible refine (instarref05_Right.calls kj5 _ _ l0 t106 _ ?side1 ?side2 A15.out).mono ?_); (case side1 => repeat (first | exact (Kd.C_below HR0.out HB.out) | (with_reducible refine Kd.C_alloc ?_ _) | (with_reducible refine Kd.C_drewN ?_ _) | (with_reducible refine Kd.C_drew ?_))); (case side2 => exact HC0.out); rintro e w33 ⟨rfl, hb⟩; have n0_ := Aside0.mk (below_step (by repeat (first | (with_reducible first | exact HB.out | apply below_alloc | apply pw_below_drewN | apply below_drew1) | exact HB.out)) hb); clear HB; have HB := n0_; clear n0_; (try clear hb); (try clear hb2); (try clear hk); (try clear hi)) | (go_at_call 16; (with_reducible refine (row_Show.calls kj5 _ _ l0 t107 _ ?side1 ?side2 ?side3 A17.out).mono ?_); (case side1 => repeat (first | exact (Kd.C_below HR0.out HB.out) | (with_reducible refine Kd.C_alloc ?_ _) | (with_reducible refine Kd.C_drewN ?_ _) | (with_reducible refine Kd.C_drew ?_))); (case side2 => exact HC0.out); (case side3 => first | exact hG | exact Go.Proofs.YtinjibbjlcfkaaaDoor.Bs.Gl.below hG (by repeat (first | (with_reducible first | exact HB.out | apply below_alloc | apply pw_below_drewN | apply below_drew1) | exact HB.out)) | (repeat (first | exact hG | refine Go.Proofs.YtinjibbjlcfkaaaDoor.Bs.Gl.drewN ?_ _))); rintro e w34 ⟨rfl, hb⟩; have n0_ := Aside0.mk (below_step (by repeat (first | (with_reducible first | exact HB.out | apply below_alloc | apply pw_below_drewN | apply below_drew1) | exact HB.out)) hb); clear HB; have HB := n0_; clear n0_; (try clear hb); (try clear hb2); (try clear hk); (try clear hi)) | (go_at_call 17; (with_reducible refine (instarref05_Show.calls kj5 _ _ l0 t108 _ ?side1 ?side2 A18.out).mono ?_); (case side1 => repeat (first | exact (Kd.C_below HR0.out HB.out) | (with_reducible refine Kd.C_alloc ?_ _) | (with_reducible refine Kd.C_drewN ?_ _) | (with_reducible refine Kd.C_drew ?_))); (case side2 => exact HC0.out); rintro e w35 ⟨rfl, hb⟩; have n0_ := Aside0.mk (below_step (by repeat (first | (with_reducible first | exact HB.out | apply below_alloc | apply pw_below_drewN | apply below_drew1) | exact HB.out)) hb); clear HB; have HB := n0_; clear n0_; (try clear hb); (try clear hb2); (try clear hk); (try clear hi)) | (go_at_call 18; (with_reducible refine (row_Key.calls kj5 _ _ l0 t109 _ ?side1 ?side2 ?side3 A20.out).mono ?_); (case side1 => repeat (first | exact (Kd.C_below HR0.out HB.out) | (with_reducible refine Kd.C_alloc ?_ _) | (with_reducible refine Kd.C_drewN ?_ _) | (with_reducible refine Kd.C_drew ?_))); (case side2 => exact HC0.out); (case side3 => first | exact hG | exact Go.Proofs.YtinjibbjlcfkaaaDoor.Bs.Gl.below hG (by repeat (first | (with_reducible first | exact HB.out | apply below_alloc | apply pw_below_drewN | apply below_drew1) | exact HB.out)) | (repeat (first | exact hG | refine Go.Proofs.YtinjibbjlcfkaaaDoor.Bs.Gl.drewN ?_ _))); rintro e w36 ⟨rfl, hb⟩; have n0_ := Aside0.mk (below_step (by repeat (first | (with_reducible first | exact HB.out | apply below_alloc | apply pw_below_drewN | apply below_drew1) | exact HB.out)) hb); clear HB; have HB := n0_; clear n0_; (try clear hb); (try clear hb2); (try clear hk); (try clear hi)) | (go_at_call 19; (with_reducible refine (instarref05_Key.calls kj5 _ _ l0 t110 _ ?side1 ?side2 A21.out).mono ?_); (case side1 => repeat (first | exact (Kd.C_below HR0.out HB.out) | (with_reducible refine Kd.C_alloc ?_ _) | (with_reducible refine Kd.C_drewN ?_ _) | (with_reducible refine Kd.C_drew ?_))); (case side2 => exact HC0.out); rintro e w37 ⟨rfl, hb⟩; have n0_ := Aside0.mk (below_step (by repeat (first | (with_reducible first | exact HB.out | apply below_alloc | apply pw_below_drewN | apply below_drew1) | exact HB.out)) hb); clear HB; have HB := n0_; clear n0_; (try clear hb); (try clear hb2); (try clear hk); (try clear hi)) | (go_at_call 20; (with_reducible refine (row_Fits.calls kj5 _ _ l0 _ _ l2 t111 _ ?side1 ?side2 ?side3 ?side4 A23.out).mono ?_); (case side1 => repeat (first | exact (Kd.C_below HR0.out HB.out) | (with_reducible refine Kd.C_alloc ?_ _) | (with_reducible refine Kd.C_drewN ?_ _) | (with_reducible refine Kd.C_drew ?_))); (case side2 => exact HC0.out); (case side3 => repeat (first | exact (Kd.C_below HR2.out HB.out) | (with_reducible refine Kd.C_alloc ?_ _) | (with_reducible refine Kd.C_drewN ?_ _) | (with_reducible refine Kd.C_drew ?_))); (case side4 => exact HC2.out); rintro e w38 ⟨rfl, hb⟩; have n0_ := Aside0.mk (below_step (by repeat (first | (with_reducible first | exact HB.out | apply below_alloc | apply pw_below_drewN | apply below_drew1) | exact HB.out)) hb); clear HB; have HB := n0_; clear n0_; (try clear hb); (try clear hb2); (try clear hk); (try clear hi)) | (go_at_call 21; (with_reducible refine (instarref05_Fits.calls kj5 _ _ l0 _ _ l2 t112 _ ?side1 ?side2 ?side3 ?side4 A24.out).mono ?_); (case side1 => repeat (first | exact (Kd.C_below HR0.out HB.out) | (with_reducible refine Kd.C_alloc ?_ _) | (with_reducible refine Kd.C_drewN ?_ _) | (with_reducible refine Kd.C_drew ?_))); (case side2 => exact HC0.out); (case side3 => repeat (first | exact (Kd.C_below HR2.out HB.out) | (with_reducible refine Kd.C_alloc ?_ _) | (with_reducible refine Kd.C_drewN ?_ _) | (with_reducible refine Kd.C_drew ?_))); (case side4 => exact HC2.out); rintro e w39 ⟨rfl, hb⟩; have n0_ := Aside0.mk (below_step (by repeat (first | (with_reducible first | exact HB.out | apply below_alloc | apply pw_below_drewN | apply below_drew1) | exact HB.out)) hb); clear HB; have HB := n0_; clear n0_; (try clear hb); (try clear hb2); (try clear hk); (try clear hi)) | (go_at_call 22; (with_reducible refine (row_Compare.calls kj5 _ _ l0 _ _ l1 t113 _ ?side1 ?side2 ?side3 ?side4 A26.out).mono ?_); (case side1 => repeat (first | exact (Kd.C_below HR0.out HB.out) | (with_reducible refine Kd.C_alloc ?_ _) | (with_reducible refine Kd.C_drewN ?_ _) | (with_reducible refine Kd.C_drew ?_))); (case side2 => exact HC0.out); (case side3 => repeat (first | exact (Kd.C_below HR1.out HB.out) | (with_reducible refine Kd.C_alloc ?_ _) | (with_reducible refine Kd.C_drewN ?_ _) | (with_reducible refine Kd.C_drew ?_))); (case side4 => exact HC1.out); rintro e w40 ⟨rfl, hb⟩; have n0_ := Aside0.mk (below_step (by repeat (first | (with_reducible first | exact HB.out | apply below_alloc | apply pw_below_drewN | apply below_drew1) | exact HB.out)) hb); clear HB; have HB := n0_; clear n0_; (try clear hb); (try clear hb2); (try clear hk); (try clear hi)) | (go_at_call 23; (with_reducible refine (instarref05_Compare.calls kj5 _ _ l0 _ _ l1 t114 _ ?side1 ?side2 ?side3 ?side4 A27.out).mono ?_); (case side1 => repeat (first | exact (Kd.C_below HR0.out HB.out) | (with_reducible refine Kd.C_alloc ?_ _) | (with_reducible refine Kd.C_drewN ?_ _) | (with_reducible refine Kd.C_drew ?_))); (case side2 => exact HC0.out); (case side3 => repeat (first | exact (Kd.C_below HR1.out HB.out) | (with_reducible refine Kd.C_alloc ?_ _) | (with_reducible refine Kd.C_drewN ?_ _) | (with_reducible refine Kd.C_drew ?_))); (case side4 => exact HC1.out); rintro e w41 ⟨rfl, hb⟩; have n0_ := Aside0.mk (below_step (by repeat (first | (with_reducible first | exact HB.out | apply below_alloc | apply pw_below_drewN | apply below_drew1) | exact HB.out)) hb); clear HB; have HB := n0_; clear n0_; (try clear hb); (try clear hb2); (try clear hk); (try clear hi)) | (go_at_call 24; (with_reducible refine (row_Same.calls kj5 _ _ l0 _ _ l1 t115 _ ?side1 ?side2 ?side3 ?side4 A29.out).mono ?_); (case side1 => repeat (first | exact (Kd.C_below HR0.out HB.out) | (with_reducible refine Kd.C_alloc ?_ _) | (with_reducible refine Kd.C_drewN ?_ _) | (with_reducible refine Kd.C_drew ?_))); (case side2 => exact HC0.out); (case side3 => repeat (first | exact (Kd.C_below HR1.out HB.out) | (with_reducible refine Kd.C_alloc ?_ _) | (with_reducible refine Kd.C_drewN ?_ _) | (with_reducible refine Kd.C_drew ?_))); (case side4 => exact HC1.out); rintro e w' ⟨rfl, ⟨nd, rfl⟩⟩) | (go_at_call 11; (with_reducible refine (instarref05_Same.calls kj5 _ _ l0 _ _ l1 t116 _ ?side1 ?side2 ?side3 ?side4 A30.out).mono ?_); (case side1 => repeat (first | exact (Kd.C_below HR0.out (by repeat (first | (with_reducible first | exact HB.out | apply below_alloc | apply pw_below_drewN | apply below_drew1) | exact HB.out))) | (with_reducible refine Kd.C_alloc ?_ _) | (with_reducible refine Kd.C_drewN ?_ _) | (with_reducible refine Kd.C_drew ?_))); (case side2 => exact HC0.out); (case side3 => repeat (first | exact (Kd.C_below HR1.out (by repeat (first | (with_reducible first | exact HB.out | apply below_alloc | apply pw_below_drewN | apply below_drew1) | exact HB.out))) | (with_reducible refine Kd.C_alloc ?_ _) | (with_reducible refine Kd.C_drewN ?_ _) | (with_reducible refine Kd.C_drew ?_))); (case side4 => exact HC1.out); rintro e w' ⟨rfl, ⟨nd, rfl⟩⟩))
                    go_ret
                    exact ⟨by first | rfl | (simp [errW_none, errW_some] <;> rfl) | (simp [*, errW_none, errW_some] <;> rfl), by repeat (first | (with_reducible first | exact HB.out | apply below_alloc | apply pw_below_drewN | apply below_drew1) | exact HB.out)⟩
                  · rw [if_neg c28] at H
                    have c28b0 : (t113 == t114) = false := beq_eq_false_iff_ne.mpr c28
                    have c28b1 : (t113 != t114) = true := bne_iff_ne.mpr c28
                    exact absurd ((Option.some.inj H).trans hr_.out) (by decide)
                · rw [if_neg c25] at H
                  have c25b0 : (t111 == t112) = false := by simpa using c25
                  (try (have c25b1 : decide (t111 = t112) = false := by simpa using c25))
                  (try (have c25b2 : (t111 == t112) = false := by simpa using c25))
                  (try (have c25b3 : ¬ (t111 = t112) := by simpa using c25))
                  clear c25
                  exact absurd ((Option.some.inj H).trans hr_.out) (by decide)
              · rw [if_neg c22] at H
                have c22b0 : (t109.toList == t110.toList) = false := beq_eq_false_iff_ne.mpr c22
                have c22b1 : (t109.toList != t110.toList) = true := bne_iff_ne.mpr c22
                exact absurd ((Option.some.inj H).trans hr_.out) (by decide)
            · rw [if_neg c19] at H
              have c19b0 : (t107.toList == t108.toList) = false := beq_eq_false_iff_ne.mpr c19
              have c19b1 : (t107.toList != t108.toList) = true := bne_iff_ne.mpr c19
              exact absurd ((Option.some.inj H).trans hr_.out) (by decide)
          · rw [if_neg c16] at H
            have c16b0 : (t105 == t106) = false := by simpa using c16
            (try (have c16b1 : decide (t105 = t106) = false := by simpa using c16))
            (try (have c16b2 : (t105 == t106) = false := by simpa using c16))
            (try (have c16b3 : ¬ (t105 = t106) := by simpa using c16))
            clear c16
            exact absurd ((Option.some.inj H).trans hr_.out) (by decide)
        · replace c13 := Bool.eq_false_iff.mpr c13
          subst c13
          have H1 : (some false) = some r := by rw [if_neg (show ¬ (false = true) by decide)] at H; exact H
          clear H
          have H := H1
          clear H1
          exact absurd ((Option.some.inj H).trans hr_.out) (by decide)
end Go.Proofs.YtinjibbjlcfkaaaDoor.PE
end
section
namespace Go.Proofs.YtinjibbjlcfkaaaDoor.Op
open Go Go.Proofs.YtinjibbjlcfkaaaDoorW.PrintWords Go.ChangeShapes Go.WideShapes
set_option linter.unusedVariables false
set_option linter.unusedSimpArgs false
structure Opens (P : Program) {α : Type} (d : Kd α) (t : TypeId) (bd : α → Prop) : Prop where
  cells : P.cellsOf t = d.sz
  opens : ∀ {H : Type} {enc : TypeId × Value → H} {w : World} {fuel : Nat} {cs : List Value} {x : DataW H × List MemPlace},
    DataW.trod enc P w 0 (fun _ => true) true fuel t cs = some x → (∀ n ∈ x.1.weights P t, n ≤ reachBytes) → ∃ y, d.K w y cs ∧ bd y
def inKind (k : IntKind) (n : Int) : Prop := (Lit.int k n).wf = true
theorem inKind_i64 {n : Int} (h : inKind .i64 n) : -9223372036854775808 ≤ n ∧ n ≤ 9223372036854775807 := by
  simp only [inKind, Lit.wf, decide_eq_true_eq, Bool.and_eq_true] at h; exact h
def reach (s : ByteArray) : Prop := s.size ≤ 140737488351232
variable {P : Program}
theorem Opens.int {t : TypeId} (k : IntKind) (ht : P.underlying t = some (.int k)) (hc : P.cellsOf t = 1) : Opens P (Kd.int k) t (inKind k) :=
  ⟨hc, fun h _ => by
    obtain ⟨n, rfl, _, hw⟩ := DataW.trod_int ht h
    exact ⟨n, rfl, hw⟩⟩
theorem Opens.bool {t : TypeId} (ht : P.underlying t = some .bool) (hc : P.cellsOf t = 1) : Opens P Kd.bool t (fun _ => True) :=
  ⟨hc, fun h _ => by
    obtain ⟨n, rfl, _⟩ := DataW.trod_bool ht h
    exact ⟨n, rfl, trivial⟩⟩
theorem Opens.string {t : TypeId} (ht : P.underlying t = some .string) (hc : P.cellsOf t = 1) : Opens P Kd.string t reach :=
  ⟨hc, fun h hw => by
    obtain ⟨s, rfl, rfl, hs⟩ := DataW.trod_string ht h
    refine ⟨s, rfl, ?_⟩
    have := hw s.data.toList.length (by simp [DataW.weights])
    rw [Array.length_toList] at this
    exact this⟩
theorem weights_all {H : Type} {e : TypeId} {d : DataW H} {l : List (DataW H)} (h : d ∈ l) {n : Nat} (hn : n ∈ d.weights P e) : n ∈ DataW.weightsAll P e l := by
  induction l with
  | nil => cases h
  | cons a l ih =>
    simp only [DataW.weightsAll, List.mem_append]
    rcases List.mem_cons.1 h with rfl | h
    · exact .inl hn
    · exact .inr (ih h)
theorem cells?_get {w : World} {a : Addr} {n : Nat} {c : List Value} (h : w.cells? 0 a n = some c) : c.length = n ∧ ∀ i u, c[i]? = some u → w.cell? (a.add i) = some u := by
  unfold World.cells? at h
  rw [if_pos (Nat.zero_le _)] at h
  have hl : c.length = n := by simpa using mapM_some_length h
  refine ⟨hl, fun i u hu => ?_⟩
  have hi : i < n := by have := (List.getElem?_eq_some_iff.1 hu).1; omega
  have := mapM_some_get h i i (by simp [hi])
  rw [this, hu]
def All {α : Type} (B : Nat) (bd : α → Prop) (xs : List α) : Prop := xs.length * B ≤ 140737488351232 ∧ ∀ y ∈ xs, bd y
theorem Opens.slice {α : Type} {d : Kd α} {t e : TypeId} {bd : α → Prop} (z : α) (ht : P.underlying t = some (.slice e)) (hc : P.cellsOf t = 1) {B : Nat} (hB : P.bytesOf e = B) (h : Opens P d e bd) : Opens P (Kd.slice e d) t (All B bd) :=
  ⟨hc, fun {H enc w fuel cs x} hx hw => by
    rcases DataW.trod_slice ht hx with ⟨rfl, rfl⟩ | ⟨a, len, cap, elems, rest, n, _, rfl, rfl, _, hl, hm, hel, hget, hsp, _⟩
    · exact ⟨[], ⟨none, 0, rfl, Nat.le_refl _, rfl, by simp, fun h => absurd h (by simp)⟩, by simp [All], fun _ h => by cases h⟩
    · have hone : ∀ i, i < len → ∃ y, (∃ c, w.cells? 0 (a.add (i * d.sz)) d.sz = some c ∧ d.K w y c) ∧ bd y := by
        intro i hi
        have h1 := hget i hi
        rw [h.cells] at h1
        have hie : i < elems.length := by omega
        rw [List.getElem?_eq_getElem hie] at h1
        obtain ⟨c, hcc, hcx⟩ := Option.bind_eq_some_iff.1 h1
        obtain ⟨y, hy, hb⟩ := h.opens hcx (fun m hm => hw m (by
          simp only [DataW.weights, ht, List.mem_cons, List.mem_append]
          exact .inr (.inl (weights_all (List.mem_map_of_mem (List.getElem_mem hie)) hm))))
        exact ⟨y, ⟨c, hcc, hy⟩, hb⟩
      haveI : Inhabited α := ⟨z⟩
      obtain ⟨f, hf⟩ := Go.Deep.choose_lt hone
      have hlen : ((List.range len).map f).length = len := by simp
      have hM : maxLen = 9223372036854775807 := rfl
      refine ⟨(List.range len).map f, ⟨some a, cap, by rw [hlen], by rw [hlen]; exact hl, rfl, by rw [hlen]; omega, fun _ => ⟨a, rfl, fun j p hj => ?_⟩⟩, ?_, fun y hy => ?_⟩
      · have hjl : j < len := by have := (List.getElem?_eq_some_iff.1 hj).1; omega
        have hp : p = f j := by
          rw [List.getElem?_map, List.getElem?_range hjl] at hj
          exact (Option.some.inj hj).symm
        subst hp
        obtain ⟨⟨c, hcc, hy⟩, _⟩ := hf j hjl
        obtain ⟨h1, h2⟩ := cells?_get hcc
        refine ⟨c, h1, hy, fun i u hu => ?_⟩
        have := h2 i u hu
        rw [Go.Deep.add_add] at this
        exact this
      · have := hw ((elems.length + rest.length) * P.bytesOf e) (by simp [DataW.weights, ht])
        rw [hB] at this
        rw [hlen]
        have h3 : len * B ≤ (elems.length + rest.length) * B := Nat.mul_le_mul_right _ (by omega)
        exact Nat.le_trans h3 this
      · obtain ⟨i, hi, rfl⟩ := List.mem_map.1 hy
        exact (hf i (List.mem_range.1 hi)).2⟩
def OpensFs (P : Program) {α : Type} (d : Kd α) (o : Nat) (fs : List (TypeId × Nat)) (bd : α → Prop) : Prop :=
  ∀ {H : Type} {enc : TypeId × Value → H} {w : World} {n : Nat} {cs : List Value} {ys : List (DataW H × List MemPlace)}, cs.length = o + d.sz → ys.length = fs.length →
    (∀ (i : Nat) (f : TypeId × Nat), fs[i]? = some f → DataW.trod enc P w 0 (fun _ => true) true n f.1 ((cs.drop f.2).take (P.cellsOf f.1)) = ys[i]?) →
    (∀ n ∈ DataW.weightsEach P (fs.map (·.1)) (ys.map (·.1)), n ≤ reachBytes) → ∃ y, d.K w y (cs.drop o) ∧ bd y
theorem OpensFs.one {α : Type} {d : Kd α} {t : TypeId} {o : Nat} {bd : α → Prop} (h : Opens P d t bd) : OpensFs P d o [(t, o)] bd := by
  intro H enc w n cs ys hl hy hg hw
  obtain ⟨y, rfl⟩ : ∃ y, ys = [y] := by
    match ys, hy with
    | [y], _ => exact ⟨y, rfl⟩
  have h1 := hg 0 (t, o) rfl
  simp only [List.getElem?_cons_zero] at h1
  rw [h.cells, List.take_of_length_le (by rw [List.length_drop]; omega)] at h1
  exact h.opens h1 (fun m hm => hw m (by simpa [DataW.weightsEach] using hm))
theorem OpensFs.cons {α β : Type} {a : Kd α} {b : Kd β} {t : TypeId} {o : Nat} {fs : List (TypeId × Nat)} {ba : α → Prop} {bb : β → Prop} (h : Opens P a t ba) (hr : OpensFs P b (o + a.sz) fs bb) :
    OpensFs P (Kd.pair a b) o ((t, o) :: fs) (fun x => ba x.1 ∧ bb x.2) := by
  intro H enc w n cs ys hl hy hg hw
  obtain ⟨y, ys, rfl⟩ : ∃ y r, ys = y :: r := by
    match ys, hy with
    | y :: r, _ => exact ⟨y, r, rfl⟩
  have hl' : cs.length = o + (a.sz + b.sz) := hl
  have h1 := hg 0 (t, o) rfl
  simp only [List.getElem?_cons_zero] at h1
  rw [h.cells] at h1
  obtain ⟨x, hx, hbx⟩ := h.opens h1 (fun m hm => hw m (by simp only [List.map_cons, DataW.weightsEach, List.mem_append]; exact .inl hm))
  obtain ⟨u, hu, hbu⟩ := hr (cs := cs) (ys := ys) (by omega) (by simpa using hy) (fun i f hf => by have := hg (i + 1) f hf; simpa using this)
    (fun m hm => hw m (by simp only [List.map_cons, DataW.weightsEach, List.mem_append]; exact .inr hm))
  refine ⟨(x, u), ⟨_, _, ?_, hx, hu⟩, hbx, hbu⟩
  rw [← List.drop_drop, List.take_append_drop]
theorem Opens.struct {α β : Type} {d : Kd α} {t : TypeId} {fs : Array Field} {l : List (TypeId × Nat)} {bd : α → Prop} {f : β → α} (g : α → β) (hfg : ∀ x, f (g x) = x) (ht : P.underlying t = some (.struct fs)) (hc : P.cellsOf t = d.sz)
    (hl : fs.toList.map (fun q => (q.type, q.offset)) = l) (h : OpensFs P d 0 l bd) : Opens P (Kd.iso d f) t (fun y => bd (f y)) :=
  ⟨hc, fun {H enc w fuel cs x} hx hw => by
    obtain ⟨xs, n, _, rfl, hlen, hxs, hget⟩ := DataW.trod_struct ht hx
    subst hl
    obtain ⟨y, hy, hb⟩ := h (enc := enc) (w := w) (n := n) (cs := cs) (ys := xs) (by rw [hlen, hc]; omega) (by simpa using hxs)
      (fun i q hq => by
        rw [List.getElem?_map] at hq
        obtain ⟨q', hq', rfl⟩ := Option.map_eq_some_iff.1 hq
        exact hget i q' (by simpa using hq'))
      (fun m hm => hw m (by
        simp only [DataW.weights, ht]
        rw [List.map_map] at hm
        exact hm))
    rw [List.drop_zero] at hy
    exact ⟨g y, by show d.K w (f (g y)) cs; rw [hfg]; exact hy, by rw [hfg]; exact hb⟩⟩
theorem hw_of {H : Type} {ts : List TypeId} {ds : List (DataW H)} (h : (DataW.weightsEach P ts ds).all (· ≤ reachBytes) = true) {j : Nat} {t : TypeId} {d : DataW H} (ht : ts[j]? = some t) (hd : ds[j]? = some d) : ∀ n ∈ d.weights P t, n ≤ reachBytes := fun n hn => by
  simpa using List.all_eq_true.1 h n (DataW.weights_mem_each ht hd n hn)
theorem arg_one {α : Type} {d : Kd α} {t : TypeId} {bd : α → Prop} (h : Opens P d t bd) {H : Type} {enc : TypeId × Value → H} {w : World} {v : Value} {x : DataW H} {p : List MemPlace} (hv : v.cells.toList = [v]) (hr : DataW.Trod enc P w 0 (fun _ => true) true t v x p)
    (hw : ∀ n ∈ x.weights P t, n ≤ reachBytes) : ∃ y, d.K w y [v] ∧ bd y := by
  obtain ⟨fuel, hf⟩ := hr
  rw [hv] at hf
  exact h.opens hf hw
end Go.Proofs.YtinjibbjlcfkaaaDoor.Op
end
section
namespace Go.Proofs.YtinjibbjlcfkaaaDoor.QRowTells
open Go Go.RowKit Go.Proofs.YtinjibbjlcfkaaaDoorW.PrintWords Go.Proofs.YtinjibbjlcfkaaaDoor.PE Go.Proofs.YtinjibbjlcfkaaaDoor.Op
set_option linter.unusedVariables false
set_option linter.unusedSimpArgs false
def bd35 (y : S35) : Prop := (inKind .i64) y.f0 ∧ (inKind .i64) y.f1 ∧ reach y.f2
theorem op35 : Opens Tryd.prog k35 35 bd35 :=
  Opens.struct (l := [(33, 0), (2, 1), (9, 2)]) (fun p => (⟨p.1, p.2.1, p.2.2⟩ : S35)) (fun _ => rfl) Tryd.underlying35 (by kernel_rfl) (by rfl) (OpensFs.cons (Opens.int .i64 Tryd.underlying33 (by kernel_rfl)) (OpensFs.cons (Opens.int .i64 Tryd.underlying2 (by kernel_rfl)) (OpensFs.one (Opens.string Tryd.underlying9 (by kernel_rfl)))))
def Pure : Prop := ∀ (l0 : List (S35)) (l1 : List (S35)) (l2 : List Int), (All 32 bd35) l0 → (All 32 bd35) l1 → (All 8 (inKind .i64)) l2 → ∃ k, instarlaw05_RowTells.f k l0 l1 l2 = some true
end Go.Proofs.YtinjibbjlcfkaaaDoor.QRowTells
end
section
namespace Go.Proofs.YtinjibbjlcfkaaaDoor.Rk
open Go Go.RowKit Go.Proofs.YtinjibbjlcfkaaaDoorW.PrintWords Go.Proofs.YtinjibbjlcfkaaaDoor.PE
set_option linter.unusedVariables false
set_option linter.unusedSimpArgs false
section
variable {α β : Type}
def Evr (g : Nat → Option α) (v : α) : Prop := ∃ n, ∀ k, n ≤ k → g k = some v
theorem Evr.const {c : Option α} {v : α} (h : c = some v) : Evr (fun _ => c) v := ⟨0, fun _ _ => h⟩
theorem Evr.succ {g : Nat → Option α} {v : α} (h : Evr (fun k => g (k + 1)) v) : Evr g v := by
  obtain ⟨n, h⟩ := h
  exact ⟨n + 1, fun k hk => by
    obtain ⟨j, rfl⟩ : ∃ j, k = j + 1 := ⟨k - 1, by omega⟩
    exact h j (by omega)⟩
theorem Evr.bind {g : Nat → Option α} {f : Nat → α → Option β} {v : α} {u : β} (h : Evr g v) (h' : Evr (fun k => f k v) u) : Evr (fun k => (g k).bind (f k)) u := by
  obtain ⟨n, h⟩ := h
  obtain ⟨m, h'⟩ := h'
  exact ⟨max n m, fun k hk => by
    show (g k).bind (f k) = _
    rw [h k (by omega)]
    exact h' k (by omega)⟩
theorem Evr.bindc {c : Option α} {f : Nat → α → Option β} {v : α} {u : β} (h : c = some v) (h' : Evr (fun k => f k v) u) : Evr (fun k => c.bind (f k)) u := Evr.bind (Evr.const h) h'
theorem Evr.pos {c : Prop} [Decidable c] {a b : Nat → Option α} {v : α} (hc : c) (h : Evr a v) : Evr (fun k => if c then a k else b k) v := by
  obtain ⟨n, h⟩ := h
  exact ⟨n, fun k hk => by
    show (if c then a k else b k) = _
    rw [if_pos hc]
    exact h k hk⟩
theorem Evr.neg {c : Prop} [Decidable c] {a b : Nat → Option α} {v : α} (hc : ¬ c) (h : Evr b v) : Evr (fun k => if c then a k else b k) v := by
  obtain ⟨n, h⟩ := h
  exact ⟨n, fun k hk => by
    show (if c then a k else b k) = _
    rw [if_neg hc]
    exact h k hk⟩
theorem Evr.mono {g : Nat → Option α} {v : α} {n : Nat} (h : g n = some v) (hm : ∀ k, LeO (g k) (g (k + 1))) : Evr g v := by
  refine ⟨n, fun k hk => ?_⟩
  obtain ⟨d, rfl⟩ : ∃ d, k = n + d := ⟨k - n, by omega⟩
  clear hk
  induction d with
  | zero => exact h
  | succ d ih => exact hm _ _ ih
theorem Evr.ex {g : Nat → Option α} {v : α} (h : Evr g v) : ∃ k, g k = some v := by
  obtain ⟨n, h⟩ := h
  exact ⟨n, h n (Nat.le_refl _)⟩
end
theorem wrap_eq {x : Int} (h0 : -9223372036854775808 ≤ x) (h1 : x ≤ 9223372036854775807) : wrap64 x = x := by unfold wrap64; omega
theorem wrap_nat {n : Nat} (h : n < 9223372036854775807) : wrap64 ((n : Int) + 1) = ((n + 1 : Nat) : Int) := by unfold wrap64; omega
theorem rd_get {l : List S35} {i : Nat} (h : i < l.length) : rd_T35 l (i : Int) = l[i] := by simp [rd_T35, h]
theorem rd_int {l : List Int} {i : Nat} (h : i < l.length) : rd l (i : Int) = l[i] := by simp [rd, h]
theorem alive_ev : Evr (fun k => instarlaw05_alive.f k) true := Evr.mono instarlaw05_alive.at_ instarlaw05_alive.mono
def sz (l : List S35) : Nat := (l.map fun y => y.f2.size).sum
theorem sz_app (a b : List S35) : sz (a ++ b) = sz a + sz b := by simp [sz]
theorem sz_take {l : List S35} {i : Nat} (h : i < l.length) : sz (l.take (i + 1)) = sz (l.take i) + l[i].f2.size := by
  rw [List.take_succ_eq_append_getElem h, sz_app]
  simp [sz]
theorem sz_le {l : List S35} (hb : ∀ y ∈ l, y.f2.size ≤ 140737488351232) : ∀ i, i ≤ l.length → sz (l.take i) ≤ i * 140737488351232
  | 0, _ => by simp [sz]
  | i + 1, h => by
    have := sz_le hb i (by omega)
    rw [sz_take (by omega)]
    have := hb l[i] (List.getElem_mem _)
    omega
theorem small_l {l : List S35} (hb : ∀ y ∈ l, y.f2.size ≤ 140737488351232) : ∀ n i, n = 31 - i → i ≤ 31 → i ≤ l.length →
    ∃ b, Evr (fun k => instarlaw05_Small.l0 k l (sz (l.take i) : Int) (i : Int)) b ∧ (b = true → l.length ≤ 30 ∧ sz l ≤ 600)
  | n, i, hn, hi, hl => by
    have hs := sz_le hb i hl
    by_cases c : i < l.length
    · by_cases c2 : i ≤ 30
      · obtain ⟨b, hev, hh⟩ := small_l hb (31 - (i + 1)) (i + 1) rfl (by omega) c
        refine ⟨b, Evr.succ ?_, hh⟩
        simp only [instarlaw05_Small.l0]
        refine Evr.pos (by omega) (Evr.pos (by omega) (Evr.pos (by omega) ?_))
        have hb' := hb l[i] (List.getElem_mem _)
        rw [rd_get c, wrap_eq (by omega) (by omega), wrap_nat (by omega)]
        have e : ((sz (l.take i) : Int) + (l[i].f2.size : Int)) = ((sz (l.take (i + 1)) : Nat) : Int) := by rw [sz_take c]; omega
        rw [e]
        exact hev
      · refine ⟨false, Evr.succ ?_, by simp⟩
        simp only [instarlaw05_Small.l0]
        exact Evr.pos (by omega) (Evr.neg (by omega) (Evr.neg (by omega) (Evr.const rfl)))
    · have e : i = l.length := by omega
      by_cases c3 : l.length ≤ 30
      · refine ⟨decide ((sz (l.take i) : Int) ≤ 600), Evr.succ ?_, ?_⟩
        · simp only [instarlaw05_Small.l0]
          exact Evr.neg (by omega) (Evr.pos (by omega) (Evr.const rfl))
        · intro h
          have h := of_decide_eq_true h
          rw [e, List.take_length] at h
          exact ⟨c3, by omega⟩
      · refine ⟨false, Evr.succ ?_, by simp⟩
        simp only [instarlaw05_Small.l0]
        exact Evr.neg (by omega) (Evr.neg (by omega) (Evr.const rfl))
  termination_by n => n
theorem small_ev {l : List S35} (hb : ∀ y ∈ l, y.f2.size ≤ 140737488351232) : ∃ b, Evr (fun k => instarlaw05_Small.f k l) b ∧ (b = true → l.length ≤ 30 ∧ sz l ≤ 600) := by
  obtain ⟨b, h, hh⟩ := small_l hb 31 0 rfl (by omega) (by omega)
  exact ⟨b, by simpa [sz, instarlaw05_Small.f] using h, hh⟩
end Go.Proofs.YtinjibbjlcfkaaaDoor.Rk
end
section
namespace Go.Proofs.YtinjibbjlcfkaaaDoor.Vo
open Go Go.RowKit Go.Proofs.YtinjibbjlcfkaaaDoorW.PrintWords Go.Proofs.YtinjibbjlcfkaaaDoor.PE
set_option linter.unusedVariables false
set_option linter.unusedSimpArgs false
theorem bl_trans : ∀ a b c : List UInt8, Op.bytesLess a b = true → Op.bytesLess b c = true → Op.bytesLess a c = true
  | _, [], _, h, _ => by simp [Op.bytesLess] at h
  | _, _ :: _, [], _, h => by simp [Op.bytesLess] at h
  | [], _ :: _, _ :: _, _, _ => rfl
  | x :: a, y :: b, z :: c, h, h' => by
    simp only [Op.bytesLess, Bool.or_eq_true, decide_eq_true_eq, Bool.and_eq_true, beq_iff_eq] at h h' ⊢
    rcases h with h | ⟨h, hr⟩
    · rcases h' with h' | ⟨h', _⟩
      · exact .inl (UInt8.lt_trans h h')
      · exact .inl (h' ▸ h)
    · rcases h' with h' | ⟨h', hr'⟩
      · exact .inl (h ▸ h')
      · exact .inr ⟨h.trans h', bl_trans a b c hr hr'⟩
theorem bl_asymm {a b : List UInt8} (h : Op.bytesLess a b = true) : Op.bytesLess b a = false := by
  cases h' : Op.bytesLess b a with
  | false => rfl
  | true => have := bl_trans a b a h h'; rw [Bs.bytesLess_irrefl] at this; cases this
theorem bl_eq {a b : List UInt8} (h : Op.bytesLess a b = false) (h' : Op.bytesLess b a = false) : a = b := by
  have := Bs.bytesLess_or a b
  rw [h, h'] at this
  simpa using this
def cmpI (a b : Int) : Int := if a < b then -1 else if a > b then 1 else 0
def cmpS (a b : List UInt8) : Int := if Op.bytesLess a b = true then -1 else if Op.bytesLess b a = true then 1 else 0
def cmpV (K N : Int) (S : ByteArray) (K' N' : Int) (S' : ByteArray) : Int := if cmpI K K' = 0 then if cmpI N N' = 0 then cmpS S.toList S'.toList else cmpI N N' else cmpI K K'
theorem or3 (a b c : Int) (n : Nat) : cmp_Or_int.f (n + 4) [a, b, c] = some (if a = 0 then if b = 0 then c else b else a) := by
  have r0 : rd [a, b, c] 0 = a := rfl
  have r1 : rd [a, b, c] 1 = b := rfl
  have r2 : rd [a, b, c] 2 = c := rfl
  have w1 : wrap64 (0 + 1) = 1 := by unfold wrap64; omega
  have w2 : wrap64 (1 + 1) = 2 := by unfold wrap64; omega
  have w3 : wrap64 (2 + 1) = 3 := by unfold wrap64; omega
  have hl : (([a, b, c] : List Int).length : Int) = 3 := rfl
  simp only [cmp_Or_int.f, cmp_Or_int.l0, hl, r0, r1, r2, w1, w2, w3, show (0 : Int) < 3 by decide, show (1 : Int) < 3 by decide, show (2 : Int) < 3 by decide, show ¬ (3 : Int) < 3 by decide, show (0 : Int) ≤ 0 by decide, show (0 : Int) ≤ 1 by decide, show (0 : Int) ≤ 2 by decide, if_true, if_false]
  by_cases ha : a = 0
  · by_cases hb : b = 0
    · by_cases hc : c = 0 <;> simp [ha, hb, hc]
    · simp [ha, hb]
  · simp [ha]
theorem compare_eq (K N : Int) (S : ByteArray) (K' N' : Int) (S' : ByteArray) (n : Nat) : value_Compare.f (n + 4) K N S K' N' S' = some (cmpV K N S K' N' S') := by
  have h1 : ∀ a b : Int, api_Kind_56.f a b = some (cmpI a b) := fun a b => by
    simp only [api_Kind_56.f, api_Kind_71.f, bne_self_eq_false, Option.bind_some, cmpI]
    repeat' split
    all_goals simp_all
  have h2 : ∀ a b : Int, cmp_Compare_int64.f a b = some (cmpI a b) := fun a b => by
    simp only [cmp_Compare_int64.f, cmp_isNaN_int64.f, bne_self_eq_false, Option.bind_some, cmpI]
    repeat' split
    all_goals simp_all
  have h3 : ∀ a b : ByteArray, cmp_Compare_string.f a b = some (cmpS a.toList b.toList) := fun a b => by
    simp only [cmp_Compare_string.f, cmp_isNaN_string.f, bne_self_eq_false, Option.bind_some, cmpS]
    repeat' split
    all_goals simp_all
  simp only [value_Compare.f, h1, h2, h3, Option.bind_some, or3, cmpV]
theorem cmpI_cases (a b : Int) : (a < b ∧ cmpI a b = -1) ∨ (a = b ∧ cmpI a b = 0) ∨ (b < a ∧ cmpI a b = 1) := by
  unfold cmpI; split
  · exact .inl ⟨by assumption, rfl⟩
  split
  · exact .inr (.inr ⟨by omega, rfl⟩)
  · exact .inr (.inl ⟨by omega, rfl⟩)
theorem cmpS_cases (a b : List UInt8) : (Op.bytesLess a b = true ∧ cmpS a b = -1) ∨ (a = b ∧ cmpS a b = 0) ∨ (Op.bytesLess b a = true ∧ cmpS a b = 1) := by
  unfold cmpS; split
  · exact .inl ⟨by assumption, rfl⟩
  split
  · exact .inr (.inr ⟨by assumption, rfl⟩)
  · rename_i h h'
    exact .inr (.inl ⟨bl_eq (by simpa using h) (by simpa using h'), rfl⟩)
def LtV (K N : Int) (S : ByteArray) (K' N' : Int) (S' : ByteArray) : Prop := K < K' ∨ (K = K' ∧ (N < N' ∨ (N = N' ∧ Op.bytesLess S.toList S'.toList = true)))
theorem cmpV_cases (K N : Int) (S : ByteArray) (K' N' : Int) (S' : ByteArray) :
    (LtV K N S K' N' S' ∧ cmpV K N S K' N' S' = -1) ∨ ((K = K' ∧ N = N' ∧ S.toList = S'.toList) ∧ cmpV K N S K' N' S' = 0) ∨ (LtV K' N' S' K N S ∧ cmpV K N S K' N' S' = 1) := by
  unfold cmpV LtV
  rcases cmpI_cases K K' with ⟨h, e⟩ | ⟨h, e⟩ | ⟨h, e⟩
  · rw [if_neg (by omega)]; exact .inl ⟨.inl h, e⟩
  · rw [if_pos e]
    rcases cmpI_cases N N' with ⟨g, f⟩ | ⟨g, f⟩ | ⟨g, f⟩
    · rw [if_neg (by omega)]; exact .inl ⟨.inr ⟨h, .inl g⟩, f⟩
    · rw [if_pos f]
      rcases cmpS_cases S.toList S'.toList with ⟨i, j⟩ | ⟨i, j⟩ | ⟨i, j⟩
      · exact .inl ⟨.inr ⟨h, .inr ⟨g, i⟩⟩, j⟩
      · exact .inr (.inl ⟨⟨h, g, i⟩, j⟩)
      · exact .inr (.inr ⟨.inr ⟨h.symm, .inr ⟨g.symm, i⟩⟩, j⟩)
    · rw [if_neg (by omega)]; exact .inr (.inr ⟨.inr ⟨h.symm, .inl g⟩, f⟩)
  · rw [if_neg (by omega)]; exact .inr (.inr ⟨.inl h, e⟩)
theorem LtV_irrefl {K N : Int} {S S' : ByteArray} (e : S.toList = S'.toList) : ¬ LtV K N S K N S' := by
  unfold LtV
  rw [e, Bs.bytesLess_irrefl]
  simp
theorem cmpV_zero (K N : Int) (S : ByteArray) (K' N' : Int) (S' : ByteArray) : cmpV K N S K' N' S' = 0 ↔ (K = K' ∧ N = N' ∧ S.toList = S'.toList) := by
  constructor
  · intro z
    rcases cmpV_cases K N S K' N' S' with ⟨_, e⟩ | ⟨h, _⟩ | ⟨_, e⟩
    · rw [e] at z; cases z
    · exact h
    · rw [e] at z; cases z
  · rintro ⟨rfl, rfl, h⟩
    rcases cmpV_cases K N S K N S' with ⟨g, _⟩ | ⟨_, e⟩ | ⟨g, _⟩
    · exact absurd g (LtV_irrefl h)
    · exact e
    · exact absurd g (LtV_irrefl h.symm)
end Go.Proofs.YtinjibbjlcfkaaaDoor.Vo
end
section
namespace Go.Proofs.YtinjibbjlcfkaaaDoor.Ro
open Go Go.RowKit Go.Proofs.YtinjibbjlcfkaaaDoorW.PrintWords Go.Proofs.YtinjibbjlcfkaaaDoor.PE Go.Proofs.YtinjibbjlcfkaaaDoor.Rk Go.Proofs.YtinjibbjlcfkaaaDoor.Vo
set_option linter.unusedVariables false
set_option linter.unusedSimpArgs false
def cmp1 (v w : S35) : Int := cmpV v.f0 v.f1 v.f2 w.f0 w.f1 w.f2
def cmpL : List S35 → List S35 → Int
  | [], [] => 0
  | [], _ :: _ => -1
  | _ :: _, [] => 1
  | v :: l, w :: m => if cmp1 v w = 0 then cmpL l m else cmp1 v w
theorem comp_l (a b : List S35) (ha : a.length < 9223372036854775807) : ∀ n i, n = a.length - i → i ≤ a.length → i ≤ b.length →
    Evr (fun k => api_Value_38_value_Compare.l0 k a b a (a.length : Int) (i : Int)) (cmpL (a.drop i) (b.drop i))
  | n, i, hn, hi, hj => by
    refine Evr.succ ?_
    simp only [api_Value_38_value_Compare.l0]
    by_cases c : i < a.length
    · refine Evr.pos (by omega) (Evr.pos (by omega) (Evr.pos (by omega) ?_))
      by_cases c2 : i < b.length
      · refine Evr.neg (by omega) (Evr.pos (by omega) ?_)
        rw [rd_get c, rd_get c2, List.drop_eq_getElem_cons c, List.drop_eq_getElem_cons c2]
        have hc : Evr (fun k => value_Compare.f k a[i].f0 a[i].f1 a[i].f2 b[i].f0 b[i].f1 b[i].f2) (cmp1 a[i] b[i]) := ⟨4, fun k hk => by
          obtain ⟨m, rfl⟩ : ∃ m, k = m + 4 := ⟨k - 4, by omega⟩
          exact compare_eq _ _ _ _ _ _ m⟩
        refine Evr.bind hc ?_
        simp only [cmpL]
        by_cases c3 : cmp1 a[i] b[i] = 0
        · rw [if_pos c3]
          refine Evr.pos c3 ?_
          rw [wrap_nat (by omega)]
          exact comp_l a b ha (a.length - (i + 1)) (i + 1) rfl c c2
        · rw [if_neg c3]
          exact Evr.neg c3 (Evr.const rfl)
      · rw [List.drop_eq_getElem_cons c, List.drop_eq_nil_of_le (show b.length ≤ i by omega)]
        exact Evr.pos (by omega) (Evr.const rfl)
    · rw [List.drop_eq_nil_of_le (show a.length ≤ i by omega)]
      refine Evr.neg (by omega) ?_
      by_cases c2 : i < b.length
      · rw [List.drop_eq_getElem_cons c2]
        exact Evr.pos (by omega) (Evr.const rfl)
      · rw [List.drop_eq_nil_of_le (show b.length ≤ i by omega)]
        exact Evr.neg (by omega) (Evr.const rfl)
  termination_by n => n
theorem comp_ev (a b : List S35) (ha : a.length < 9223372036854775807) : Evr (fun k => row_Compare.f k a b) (cmpL a b) := by
  unfold row_Compare.f api_Value_38_value_Compare.f
  exact Evr.bind (by simpa using comp_l a b ha _ 0 rfl (Nat.zero_le _) (Nat.zero_le _)) (Evr.const rfl)
def eqB (v w : S35) : Bool := !(!((v.f0) == (w.f0)) || (!((v.f1) == (w.f1)) || (!((v.f2).toList == (w.f2).toList))))
theorem eqB_cmp (v w : S35) : eqB v w = (cmp1 v w == 0) := by
  have h := cmpV_zero v.f0 v.f1 v.f2 w.f0 w.f1 w.f2
  rw [Bool.eq_iff_iff]
  simp [eqB, cmp1, h]
theorem cmpL_len : ∀ a b : List S35, cmpL a b = 0 → a.length = b.length
  | [], [], _ => rfl
  | [], _ :: _, h => by simp [cmpL] at h
  | _ :: _, [], h => by simp [cmpL] at h
  | v :: l, w :: m, h => by
    simp only [cmpL] at h
    split at h
    · rw [List.length_cons, List.length_cons, cmpL_len l m h]
    · contradiction
theorem same_gen (a b : List S35) (ha : a.length < 9223372036854775807) (hab : a.length = b.length) : ∀ n i, n = a.length - i → i ≤ a.length →
    Evr (fun k => api_Value_41.l0 k a b (a.length : Int) (i : Int)) (cmpL (a.drop i) (b.drop i) == 0)
  | n, i, hn, hi => by
    refine Evr.succ ?_
    simp only [api_Value_41.l0]
    by_cases c : i < a.length
    · have c2 : i < b.length := by omega
      refine Evr.pos (by omega) (Evr.pos (by omega) (Evr.pos (by omega) (Evr.pos (by omega) ?_)))
      rw [rd_get c, rd_get c2, List.drop_eq_getElem_cons c, List.drop_eq_getElem_cons c2]
      have he := eqB_cmp a[i] b[i]
      simp only [cmpL]
      by_cases c3 : cmp1 a[i] b[i] = 0
      · rw [if_pos c3]
        refine Evr.neg ?_ ?_
        · rw [c3] at he
          intro h
          rw [eqB, h] at he
          cases he
        · rw [wrap_nat (by omega)]
          exact same_gen a b ha hab (a.length - (i + 1)) (i + 1) rfl c
      · rw [if_neg c3]
        have e0 : (cmp1 a[i] b[i] == 0) = false := by simpa using c3
        rw [e0]
        refine Evr.pos ?_ (Evr.const rfl)
        rw [e0, eqB] at he
        have nb : ∀ x : Bool, (!x) = false → x = true := by decide
        exact nb _ he
    · rw [List.drop_eq_nil_of_le (show a.length ≤ i by omega), List.drop_eq_nil_of_le (show b.length ≤ i by omega)]
      exact Evr.neg (by omega) (Evr.const rfl)
  termination_by n => n
theorem same_ev (a b : List S35) (ha : a.length < 9223372036854775807) : Evr (fun k => row_Same.f k a b) (cmpL a b == 0) := by
  unfold row_Same.f api_Value_41.f
  by_cases c : a.length = b.length
  · exact Evr.bind (Evr.pos (by omega) (by simpa using same_gen a b ha c _ 0 rfl (Nat.zero_le _))) (Evr.const rfl)
  · have : (cmpL a b == 0) = false := by
      rw [beq_eq_false_iff_ne]
      exact fun h => c (cmpL_len a b h)
    rw [this]
    exact Evr.bind (Evr.neg (by omega) (Evr.const rfl)) (Evr.const rfl)
end Go.Proofs.YtinjibbjlcfkaaaDoor.Ro
end
section
namespace Go.Proofs.YtinjibbjlcfkaaaDoor.Ko
open Go Go.RowKit
set_option linter.unusedVariables false
set_option linter.unusedSimpArgs false
def val : List UInt8 → Nat
  | [] => 0
  | a :: p => a.toNat * 256 ^ p.length + val p
def esc : List UInt8 → List UInt8
  | [] => []
  | c :: s => if c = 0 then 0 :: 255 :: esc s else c :: esc s
def repl1 (c : UInt8) (new : List UInt8) : List UInt8 → List UInt8
  | [] => []
  | b :: s => if b = c then new ++ repl1 c new s else b :: repl1 c new s
theorem replK_eq (c : UInt8) (new : List UInt8) (k : Nat) (s : List UInt8) : Lib.replaceK [c] new (k + 1) (c :: s) = new ++ Lib.replaceK [c] new k s := by
  have h : Lib.index (c :: s) [c] = ((0 : Nat) : Int) := by simp [Lib.index]
  rw [Lib.replaceK_hit _ _ _ _ 0 h]
  simp
theorem replK_ne (b c : UInt8) (h : b ≠ c) (new : List UInt8) (k : Nat) (s : List UInt8) : Lib.replaceK [c] new k (b :: s) = b :: Lib.replaceK [c] new k s := by
  cases k with
  | zero => rfl
  | succ k =>
    have hp : ([c].isPrefixOf (b :: s)) = false := by simp [List.isPrefixOf, Ne.symm h]
    by_cases hm : Lib.index s [c] = -1
    · have h1 : Lib.index (b :: s) [c] = -1 := by simp [Lib.index, hm, Ne.symm h]
      simp [Lib.replaceK, h1, hm]
    · have hge := Lib.index_ge s [c]
      obtain ⟨i, hi⟩ : ∃ i : Nat, Lib.index s [c] = i := ⟨(Lib.index s [c]).toNat, by omega⟩
      have h1 : Lib.index (b :: s) [c] = ((i + 1 : Nat) : Int) := by
        have hm' : ¬ ((i : Int) = -1) := by omega
        simp [Lib.index, hi, Ne.symm h]
        try omega
      rw [Lib.replaceK_hit _ _ _ _ _ h1, Lib.replaceK_hit _ _ _ _ _ hi]
      simp [Nat.add_right_comm]
theorem replK_one (c : UInt8) (new : List UInt8) : ∀ s : List UInt8, Lib.replaceK [c] new (Lib.count s [c]) s = repl1 c new s
  | [] => by
    cases h : Lib.count [] [c] with
    | zero => rfl
    | succ k => simp [Lib.replaceK, Lib.index, repl1]
  | b :: s => by
    have ih := replK_one c new s
    by_cases h : b = c
    · subst h
      rw [Lib.count_cons_eq, Nat.add_comm, replK_eq, ih]
      simp [repl1]
    · rw [Lib.count_cons_ne _ _ _ h, replK_ne _ _ h, ih]
      simp [repl1, h]
theorem replaceAll_one (c : UInt8) (new s : List UInt8) (hne : new ≠ [c]) : Lib.replaceAll s [c] new = repl1 c new s := by
  have h : ([c] == new) = false := by
    rw [beq_eq_false_iff_ne]
    exact fun e => hne e.symm
  simp only [Lib.replaceAll, Lib.replace, h, Bool.false_eq_true, if_false, Lib.replaceNum, show ((-1 : Int) < 0) = True by simp, true_or, if_true]
  exact replK_one c new s
theorem esc_repl : ∀ s : List UInt8, repl1 0 [0, 255] s = esc s
  | [] => rfl
  | b :: s => by
    have ih := esc_repl s
    by_cases h : b = 0
    · simp [repl1, esc, h, ih]
    · simp [repl1, esc, h, ih]
theorem xor_low {x i : Nat} (h : x < 2 ^ i) : x ^^^ 2 ^ i = x + 2 ^ i := by
  have e0 := Nat.two_pow_add_eq_or_of_lt h 1
  rw [Nat.mul_one] at e0
  rw [Nat.add_comm, e0]
  refine Nat.eq_of_testBit_eq fun j => ?_
  rw [Nat.testBit_xor, Nat.testBit_or, Nat.testBit_two_pow]
  by_cases e : i = j
  · subst e
    simp [Nat.testBit_lt_two_pow h]
  · simp [e]
theorem xor_high {x i : Nat} (h : x < 2 ^ i) : (x + 2 ^ i) ^^^ 2 ^ i = x := by
  rw [← xor_low h, Nat.xor_assoc, Nat.xor_self, Nat.xor_zero]
end Go.Proofs.YtinjibbjlcfkaaaDoor.Ko
end
section
namespace Go.Proofs.YtinjibbjlcfkaaaDoor.Ke
open Go Go.RowKit Go.Proofs.YtinjibbjlcfkaaaDoorW.PrintWords Go.Proofs.YtinjibbjlcfkaaaDoor.PE Go.Proofs.YtinjibbjlcfkaaaDoor.Rk Go.Proofs.YtinjibbjlcfkaaaDoor.Vo Go.Proofs.YtinjibbjlcfkaaaDoor.Ro Go.Proofs.YtinjibbjlcfkaaaDoor.Ko
set_option linter.unusedVariables false
set_option linter.unusedSimpArgs false
def RightV (v : S35) : Prop :=
  (v.f0 = 0 ∧ v.f1 = 0 ∧ v.f2.toList = []) ∨ (v.f0 = 1 ∧ (v.f1 = 0 ∨ v.f1 = 1) ∧ v.f2.toList = []) ∨ (v.f0 = 2 ∧ (-2147483648 ≤ v.f1 ∧ v.f1 ≤ 2147483647) ∧ v.f2.toList = []) ∨
    (v.f0 = 3 ∧ v.f2.toList = []) ∨ (v.f0 = 4 ∧ v.f1 = 0 ∧ v.f2.size ≤ 200)
theorem right_v {v : S35} (h : value_Right.f v.f0 v.f1 v.f2 = some true) : RightV v := by
  unfold RightV
  unfold value_Right.f value_room.f num_Narrow.f at h
  by_cases h4 : v.f0 = 4
  · rw [if_pos h4] at h
    by_cases h1 : v.f1 = 0
    · rw [if_pos h1] at h
      have h := of_decide_eq_true (Option.some.inj h)
      exact .inr (.inr (.inr (.inr ⟨h4, h1, by omega⟩)))
    · rw [if_neg h1] at h; cases h
  rw [if_neg h4] at h
  by_cases h0 : v.f0 = 0
  · rw [if_pos h0] at h
    by_cases hs : v.f2.toList = []
    · rw [if_pos hs, h0] at h
      simp at h
      exact .inl ⟨h0, h, hs⟩
    · rw [if_neg hs] at h; cases h
  rw [if_neg h0] at h
  by_cases h1 : v.f0 = 1
  · rw [if_pos h1] at h
    by_cases hs : v.f2.toList = []
    · rw [if_pos hs, h1] at h
      by_cases hz : v.f1 = 0
      · exact .inr (.inl ⟨h1, .inl hz, hs⟩)
      · simp [hz] at h
        exact .inr (.inl ⟨h1, .inr h, hs⟩)
    · rw [if_neg hs] at h; cases h
  rw [if_neg h1] at h
  by_cases h2 : v.f0 = 2
  · rw [if_pos h2] at h
    by_cases hs : v.f2.toList = []
    · rw [if_pos hs, h2] at h
      by_cases ha : v.f1 < -2147483648
      · simp [ha] at h
      · by_cases hb : v.f1 > 2147483647
        · simp [ha, hb] at h
        · exact .inr (.inr (.inl ⟨h2, ⟨by omega, by omega⟩, hs⟩))
    · rw [if_neg hs] at h; cases h
  rw [if_neg h2] at h
  by_cases h3 : v.f0 = 3
  · rw [if_pos h3] at h
    by_cases hs : v.f2.toList = []
    · exact .inr (.inr (.inr (.inl ⟨h3, hs⟩)))
    · rw [if_neg hs] at h; cases h
  · rw [if_neg h3] at h; cases h
def be : Nat → Nat → List UInt8
  | 0, _ => []
  | n + 1, x => UInt8.ofNat (x / 256 ^ n) :: be n x
theorem be_len : ∀ n x, (be n x).length = n
  | 0, _ => rfl
  | n + 1, x => by simp [be, be_len n x]
def encB (v : S35) : List UInt8 :=
  if v.f0 = 0 then [0] else if v.f0 = 1 then [1, if v.f1 = 0 then 0 else 1] else if v.f0 = 2 then 2 :: be 4 (v.f1 + 2147483648).toNat
  else if v.f0 = 3 then 3 :: be 8 (v.f1 + 9223372036854775808).toNat else 4 :: (esc v.f2.toList ++ [0, 0])
end Go.Proofs.YtinjibbjlcfkaaaDoor.Ke
end
section
namespace Go.Proofs.YtinjibbjlcfkaaaDoor.Kk
open Go Go.RowKit Go.Proofs.YtinjibbjlcfkaaaDoorW.PrintWords Go.Proofs.YtinjibbjlcfkaaaDoor.PE Go.Proofs.YtinjibbjlcfkaaaDoor.Rk Go.Proofs.YtinjibbjlcfkaaaDoor.Vo Go.Proofs.YtinjibbjlcfkaaaDoor.Ro Go.Proofs.YtinjibbjlcfkaaaDoor.Ko Go.Proofs.YtinjibbjlcfkaaaDoor.Ke
set_option linter.unusedVariables false
set_option linter.unusedSimpArgs false
def I64 (n : Int) : Prop := -9223372036854775808 ≤ n ∧ n ≤ 9223372036854775807
def E (l : List S35) : List UInt8 := (l.map encB).flatten
theorem E_cons (v : S35) (l : List S35) : E (v :: l) = encB v ++ E l := by simp [E]
theorem put_be {a : Int} (h0 : 0 ≤ a) (h1 : a ≤ 18446744073709551615) : ∃ t, num_Put.f a = some t ∧ t.data.toList = be 8 a.toNat ∧ (t.extract 4 t.size).data.toList = be 4 a.toNat := by
  obtain ⟨n, rfl⟩ := Int.eq_ofNat_of_zero_le h0
  refine ⟨_, by unfold num_Put.f; rw [if_pos h0, if_pos h1], ?_, ?_⟩
  · rw [strOfNums_data]
    simp only [put8, List.map_cons, List.map_nil, be, Int.toNat_natCast]
    refine List.cons_eq_cons.2 ⟨?_, List.cons_eq_cons.2 ⟨?_, List.cons_eq_cons.2 ⟨?_, List.cons_eq_cons.2 ⟨?_, List.cons_eq_cons.2 ⟨?_, List.cons_eq_cons.2 ⟨?_, List.cons_eq_cons.2 ⟨?_, List.cons_eq_cons.2 ⟨?_, rfl⟩⟩⟩⟩⟩⟩⟩⟩
    all_goals
      apply UInt8.toNat_inj.1
      simp only [UInt8.toNat_ofNat', Nat.reducePow]
      omega
  · have e : ((strOfNums (put8 (n : Int))).extract 4 (strOfNums (put8 (n : Int))).size).data.toList = ((put8 (n : Int)).drop 4).map fun n : Int => UInt8.ofNat n.toNat := rfl
    rw [e]
    simp only [put8, List.drop, List.map_cons, List.map_nil, be, Int.toNat_natCast]
    refine List.cons_eq_cons.2 ⟨?_, List.cons_eq_cons.2 ⟨?_, List.cons_eq_cons.2 ⟨?_, List.cons_eq_cons.2 ⟨?_, rfl⟩⟩⟩⟩
    all_goals
      apply UInt8.toNat_inj.1
      simp only [UInt8.toNat_ofNat', Nat.reducePow]
      omega
theorem turn32 {n : Int} (h : -2147483648 ≤ n ∧ n ≤ 2147483647) : IntKind.u64.wrap (Go.bits .xor .u32 (n % 4294967296) 2147483648) = n + 2147483648 := by
  rw [u32_xor _ _ (by omega) (by omega) (by omega) (by omega), show (2147483648 : Int).toNat = 2 ^ 31 from rfl]
  by_cases c : 0 ≤ n
  · rw [xor_low (by omega), IntKind.wrap_u64]; omega
  · have e : (n % 4294967296).toNat = (n + 2147483648).toNat + 2 ^ 31 := by omega
    rw [e, xor_high (by omega), IntKind.wrap_u64]; omega
theorem flip64 {n : Int} (h : I64 n) : num_Flip.f n = some (n + 9223372036854775808) := by
  obtain ⟨h1, h2⟩ := h
  unfold num_Flip.f
  rw [IntKind.wrap_u64, u64_xor _ _ (by omega) (by omega) (by omega) (by omega), show (9223372036854775808 : Int).toNat = 2 ^ 63 from rfl]
  by_cases c : 0 ≤ n
  · rw [xor_low (by omega)]; congr 1; omega
  · have e : (n % 18446744073709551616).toNat = (n + 9223372036854775808).toNat + 2 ^ 63 := by omega
    rw [e, xor_high (by omega)]; congr 1; omega
theorem repl_ev {s : ByteArray} (h : s.size ≤ 200) : ∃ t, strings_ReplaceAll.f s ⟨#[0]⟩ ⟨#[0, 255]⟩ = some t ∧ t.data.toList = esc s.toList := by
  have hc : Lib.countB s ⟨#[0]⟩ ≤ 201 := by
    have h1 := Lib.count_le s.data.toList [0]
    have h2 : s.data.toList.length = s.size := Array.length_toList
    have h3 : Lib.countB s ⟨#[0]⟩ = Lib.count s.data.toList [0] := by first | rfl | simp [Lib.countB]
    omega
  refine ⟨_, by unfold strings_ReplaceAll.f; rw [if_pos (by omega), if_pos (by decide), if_pos (by rw [show (⟨#[0, 255]⟩ : ByteArray).size = 2 from rfl]; omega)], ?_⟩
  show Lib.replaceAll s.data.toList [0] [0, 255] = _
  rw [replaceAll_one 0 [0, 255] _ (by decide), esc_repl, ByteArray.toList_eq]
theorem k10 : ((1 : Int) = 0) = False := by simp
theorem k20 : ((2 : Int) = 0) = False := by simp
theorem k21 : ((2 : Int) = 1) = False := by simp
theorem k30 : ((3 : Int) = 0) = False := by simp
theorem k31 : ((3 : Int) = 1) = False := by simp
theorem k32 : ((3 : Int) = 2) = False := by simp
theorem k40 : ((4 : Int) = 0) = False := by simp
theorem k41 : ((4 : Int) = 1) = False := by simp
theorem k42 : ((4 : Int) = 2) = False := by simp
theorem k43 : ((4 : Int) = 3) = False := by simp
theorem one_f {v : S35} (h : RightV v) (i : I64 v.f1) : ∃ X, code_one_f v.f0 v.f1 v.f2 = some X ∧ X.data.toList = encB v := by
  unfold code_one_f encB
  rcases h with ⟨a, b, c⟩ | ⟨a, b, c⟩ | ⟨a, b, c⟩ | ⟨a, c⟩ | ⟨a, b, c⟩
  · simp only [a, if_true]; exact ⟨_, rfl, rfl⟩
  · rcases b with b | b
    · simp only [a, b, k10, if_true, if_false]; exact ⟨_, rfl, rfl⟩
    · simp only [a, b, k10, if_true, if_false]; exact ⟨_, rfl, rfl⟩
  · simp only [a, k20, k21, if_true, if_false, turn32 b]
    obtain ⟨t, h1, h2, h3⟩ := put_be (a := v.f1 + 2147483648) (by omega) (by omega)
    refine ⟨_, by rw [h1]; rfl, ?_⟩
    rw [ByteArray.data_append, Array.toList_append, h3]
    rfl
  · simp only [a, k30, k31, k32, if_true, if_false, flip64 i]
    obtain ⟨i1, i2⟩ := i
    obtain ⟨t, h1, h2, h3⟩ := put_be (a := v.f1 + 9223372036854775808) (by omega) (by omega)
    refine ⟨_, by rw [Option.bind_some, h1]; rfl, ?_⟩
    rw [ByteArray.data_append, Array.toList_append, h2]
    rfl
  · simp only [a, b, k40, k41, k42, k43, if_true, if_false]
    obtain ⟨t, h1, h2⟩ := repl_ev c
    refine ⟨_, by rw [h1]; rfl, ?_⟩
    rw [ByteArray.data_append, ByteArray.data_append, Array.toList_append, Array.toList_append, h2]
    rfl
theorem esc_len : ∀ s : List UInt8, (esc s).length ≤ 2 * s.length
  | [] => by simp [esc]
  | c :: s => by
    have := esc_len s
    unfold esc
    split <;> simp only [List.length_cons] <;> omega
theorem encB_len {v : S35} (h : RightV v) : (encB v).length ≤ 500 := by
  unfold encB
  rcases h with ⟨a, b, c⟩ | ⟨a, b, c⟩ | ⟨a, b, c⟩ | ⟨a, c⟩ | ⟨a, b, c⟩
  · simp only [a, if_true]; simp
  · simp only [a, k10, if_true, if_false]; simp
  · simp only [a, k20, k21, if_true, if_false]; simp [be_len]
  · simp only [a, k30, k31, k32, if_true, if_false]; simp [be_len]
  · simp only [a, k40, k41, k42, k43, if_true, if_false]
    have := esc_len v.f2.toList
    have e : v.f2.toList.length = v.f2.size := by rw [ByteArray.toList_eq]; exact Array.length_toList
    simp only [List.length_cons, List.length_append, List.length_nil]
    omega
theorem enc_l : ∀ (l : List S35) (acc : ByteArray), (∀ v ∈ l, value_Right.f v.f0 v.f1 v.f2 = some true ∧ I64 v.f1) → acc.size + l.length * 500 ≤ 1000000000000 →
    ∃ X, ce_encL l acc = some (X, 0) ∧ X.data.toList = acc.data.toList ++ E l
  | [], acc, _, _ => ⟨acc, rfl, by simp [E]⟩
  | v :: l, acc, h, hs => by
    obtain ⟨h1, h2⟩ := h v (by simp)
    have hr := right_v h1
    obtain ⟨X, h3, h4⟩ := one_f hr h2
    have hx : X.size ≤ 500 := by
      have := encB_len hr
      rw [← h4, Array.length_toList] at this
      exact this
    simp only [List.length_cons] at hs
    obtain ⟨Y, h5, h6⟩ := enc_l l (acc ++ X) (fun w hw => h w (by simp [hw])) (by rw [ByteArray.size_append]; omega)
    refine ⟨Y, ?_, ?_⟩
    · simp only [ce_encL]
      rw [h1, Option.bind_some, if_pos rfl, h3, Option.bind_some, if_pos (by omega)]
      exact h5
    · rw [h6, ByteArray.data_append, Array.toList_append, h4, E_cons, List.append_assoc]
end Go.Proofs.YtinjibbjlcfkaaaDoor.Kk
end
section
namespace Go.Proofs.YtinjibbjlcfkaaaDoor.Vr
open Go Go.RowKit Go.Proofs.YtinjibbjlcfkaaaDoorW.PrintWords Go.Proofs.YtinjibbjlcfkaaaDoor.PE
set_option linter.unusedVariables false
set_option linter.unusedSimpArgs false
theorem sd {p q : Prop} [Decidable p] [Decidable q] (h : p ↔ q) : some (decide p) = some (decide q) := by simp [h]
theorem sf {q : Prop} [Decidable q] (h : ¬ q) : some false = some (decide q) := by simp [h]
theorem st {q : Prop} [Decidable q] (h : q) : some true = some (decide q) := by simp [h]
theorem se {a b : Int} {q : Prop} [Decidable q] (h : a = b ↔ q) : some (a == b) = some (decide q) := by
  rw [show (a == b) = decide (a = b) from rfl]; exact sd h
def rightB (K N : Int) (S : ByteArray) : Bool :=
  if K = 4 then decide (N = 0 ∧ (S.size : Int) ≤ 200)
  else decide (S.toList = [] ∧ ((K = 0 ∧ N = 0) ∨ (K = 1 ∧ (N = 0 ∨ N = 1)) ∨ (K = 2 ∧ -2147483648 ≤ N ∧ N ≤ 2147483647) ∨ K = 3))
def roomB (N K : Int) : Bool := decide ((K = 0 ∧ N = 0) ∨ (K = 1 ∧ (N = 0 ∨ N = 1)) ∨ (K = 2 ∧ -2147483648 ≤ N ∧ N ≤ 2147483647) ∨ K = 3)
def columnB (K : Int) : Bool := decide (1 ≤ K ∧ K ≤ 4)
abbrev E : ByteArray := ⟨#[]⟩
theorem room_eq (N K : Int) : value_room.f N K = some (roomB N K) := by
  unfold value_room.f roomB
  by_cases h0 : K = 0
  · rw [if_pos h0]; exact se (by omega)
  rw [if_neg h0]
  by_cases h1 : K = 1
  · rw [if_pos h1]
    by_cases hn : N = 0
    · rw [if_pos hn]; exact st (by omega)
    · rw [if_neg hn]; exact se (by omega)
  rw [if_neg h1]
  by_cases h2 : K = 2
  · rw [if_pos h2]
    simp only [num_Narrow.f]
    by_cases ha : N < -2147483648
    · rw [if_pos ha]; exact sf (by omega)
    · rw [if_neg ha]
      by_cases hb : N > 2147483647
      · rw [if_pos hb]; exact sf (by omega)
      · rw [if_neg hb]; exact st (by omega)
  · rw [if_neg h2]; exact se (by omega)
theorem right_eq (K N : Int) (S : ByteArray) : value_Right.f K N S = some (rightB K N S) := by
  unfold value_Right.f rightB
  simp only [room_eq, Option.bind_some]
  by_cases h4 : K = 4
  · simp [h4]; by_cases hn : N = 0 <;> simp [hn]
  · by_cases h0 : K = 0
    · by_cases hs : S.toList = [] <;> simp [h4, h0, hs, roomB]
    · by_cases h1 : K = 1
      · by_cases hs : S.toList = [] <;> simp [h4, h1, hs, roomB]
      · by_cases h2 : K = 2
        · by_cases hs : S.toList = [] <;> simp [h4, h2, hs, roomB]
        · by_cases h3 : K = 3
          · by_cases hs : S.toList = [] <;> simp [h4, h3, hs, roomB]
          · simp [h0, h1, h2, h3, h4]
theorem column_eq (K : Int) : value_column.f K = some (columnB K) := by
  unfold value_column.f columnB
  by_cases h : K > 0 <;> simp [h] <;> omega
theorem refRight_eq (K N : Int) (S : ByteArray) (n : Nat) : instarref03_Right.f (n + 1) K N S = some (rightB K N S) := by
  unfold instarref03_Right.f rightB
  by_cases h4 : K = 4
  · rw [if_pos h4, if_pos h4]
    simp only [instarref03_Right.j0, if_neg (show ¬ (false = true) by decide)]
    rw [if_neg (by omega), if_neg (by omega), if_neg (by omega), if_neg (by omega), if_pos h4]
    by_cases hn : N = 0
    · rw [if_pos hn]; exact sd (by omega)
    · rw [if_neg hn]; exact sf (by omega)
  · rw [if_neg h4, if_neg h4]
    by_cases hs : S.toList = []
    · rw [show (S.toList != []) = false by simp [hs]]
      simp only [instarref03_Right.j0, if_neg (show ¬ (false = true) by decide), hs, true_and]
      by_cases h0 : K = 0
      · rw [if_pos h0]; exact se (by omega)
      rw [if_neg h0]
      by_cases h1 : K = 1
      · rw [if_pos h1]
        by_cases hn : N = 0
        · rw [if_pos hn]; exact st (by omega)
        · rw [if_neg hn]; exact se (by omega)
      rw [if_neg h1]
      by_cases h2 : K = 2
      · rw [if_pos h2]
        by_cases hn : N ≥ -2147483648
        · rw [if_pos hn]; exact sd (by omega)
        · rw [if_neg hn]; exact sf (by omega)
      rw [if_neg h2]
      by_cases h3 : K = 3
      · rw [if_pos h3]; exact st (by omega)
      · rw [if_neg h3, if_neg h4]; exact sf (by omega)
    · rw [show (S.toList != []) = true by simp [hs]]
      simp only [instarref03_Right.j0, if_true]
      exact sf (fun h => hs h.1)
theorem refColumn_eq (K : Int) : instarref03_Column.f K = some (columnB K) := by
  unfold instarref03_Column.f columnB
  by_cases h : K ≥ 1
  · rw [if_pos h]; exact sd (by omega)
  · rw [if_neg h]; exact sf (by omega)
end Go.Proofs.YtinjibbjlcfkaaaDoor.Vr
end
section
namespace Go.Proofs.YtinjibbjlcfkaaaDoor.Tr
open Go Go.RowKit Go.Proofs.YtinjibbjlcfkaaaDoorW.PrintWords Go.Proofs.YtinjibbjlcfkaaaDoor.PE Go.Proofs.YtinjibbjlcfkaaaDoor.Rk Go.Proofs.YtinjibbjlcfkaaaDoor.Vo Go.Proofs.YtinjibbjlcfkaaaDoor.Ro Go.Proofs.YtinjibbjlcfkaaaDoor.Vr
set_option linter.unusedVariables false
set_option linter.unusedSimpArgs false
def okV (v : S35) : Bool := rightB v.f0 v.f1 v.f2
def okR (l : List S35) : Bool := decide (l.length ≤ 24) && l.all okV
theorem okV_eq (v : S35) : value_Right.f v.f0 v.f1 v.f2 = some (okV v) := right_eq _ _ _
theorem okV_ref (v : S35) : Evr (fun k => instarref03_Right.f k v.f0 v.f1 v.f2) (okV v) := Evr.mono (n := 1) (refRight_eq _ _ _ 0) (instarref03_Right.mono v.f0 v.f1 v.f2)
theorem find_l (l : List S35) (hl : l.length < 9223372036854775807) : ∀ n i, n = l.length - i → i ≤ l.length →
    ∃ r : Int, Evr (fun k => api_Value_42_row_Right_1.l0 k l (l.length : Int) (i : Int)) r ∧ decide (r ≥ 0) = !((l.drop i).all okV)
  | n, i, hn, hi => by
    by_cases c : i < l.length
    · have h1 : row_Right_1.f l[i].f0 l[i].f1 l[i].f2 = some (!okV l[i]) := by unfold row_Right_1.f; rw [okV_eq]; rfl
      rw [List.drop_eq_getElem_cons c, List.all_cons]
      cases hb : okV l[i] with
      | false =>
        refine ⟨(i : Int), Evr.succ ?_, by simp⟩
        simp only [api_Value_42_row_Right_1.l0]
        rw [rd_get c]
        exact Evr.pos (by omega) (Evr.pos (by omega) (Evr.pos (by omega) (Evr.bindc h1 (Evr.pos (by rw [hb]; rfl) (Evr.const rfl)))))
      | true =>
        obtain ⟨r, he, hr⟩ := find_l l hl (l.length - (i + 1)) (i + 1) rfl c
        refine ⟨r, Evr.succ ?_, by rw [hr]; simp⟩
        simp only [api_Value_42_row_Right_1.l0]
        rw [rd_get c]
        refine Evr.pos (by omega) (Evr.pos (by omega) (Evr.pos (by omega) (Evr.bindc h1 (Evr.neg (by rw [hb]; simp) ?_))))
        rw [wrap_nat (by omega)]
        exact he
    · refine ⟨-1, Evr.succ ?_, by rw [List.drop_eq_nil_of_le (by omega)]; rfl⟩
      simp only [api_Value_42_row_Right_1.l0]
      exact Evr.neg (by omega) (Evr.const rfl)
  termination_by n => n
theorem right_ev (l : List S35) (hl : l.length < 9223372036854775807) : Evr (fun k => row_Right.f k l) (okR l) := by
  unfold row_Right.f okR
  by_cases c : (l.length : Int) ≤ 24
  · obtain ⟨r, h1, h2⟩ := find_l l hl _ 0 rfl (Nat.zero_le _)
    have e : (decide (l.length ≤ 24) && l.all okV) = !decide (r ≥ 0) := by rw [h2, List.drop_zero, decide_eq_true (show l.length ≤ 24 by omega)]; simp
    rw [e]
    refine Evr.pos c (Evr.bind (v := decide (r ≥ 0)) ?_ (Evr.const rfl))
    unfold api_Value_26_row_Right_1.f api_Value_42_row_Right_1.f
    exact Evr.bind (by simpa using h1) (Evr.const rfl)
  · rw [decide_eq_false (show ¬ l.length ≤ 24 by omega), Bool.false_and]
    exact Evr.neg c (Evr.const rfl)
theorem rref_l (l : List S35) (hl : l.length < 9223372036854775807) : ∀ n i, n = l.length - i → i ≤ l.length →
    Evr (fun k => instarref05_Right.l0 k l (i : Int)) (decide (l.length ≤ 24) && (l.drop i).all okV)
  | n, i, hn, hi => by
    by_cases c : i < l.length
    · rw [List.drop_eq_getElem_cons c, List.all_cons]
      refine Evr.succ ?_
      simp only [instarref05_Right.l0]
      rw [rd_get c]
      refine Evr.pos (by omega) (Evr.pos (by omega) (Evr.bind (okV_ref _) ?_))
      cases hb : okV l[i] with
      | false => rw [Bool.false_and, Bool.and_false]; exact Evr.neg (by simp) (Evr.const rfl)
      | true =>
        rw [Bool.true_and]
        refine Evr.pos rfl ?_
        rw [wrap_nat (by omega)]
        exact rref_l l hl (l.length - (i + 1)) (i + 1) rfl c
    · rw [List.drop_eq_nil_of_le (by omega)]
      refine Evr.succ ?_
      simp only [instarref05_Right.l0]
      refine Evr.neg (by omega) (Evr.const ?_)
      rw [List.all_nil, Bool.and_true]
      congr 1
      exact decide_eq_decide.2 (by omega)
  termination_by n => n
theorem rref_ev (l : List S35) (hl : l.length < 9223372036854775807) : Evr (fun k => instarref05_Right.f k l) (okR l) := by
  unfold instarref05_Right.f okR
  simpa using rref_l l hl _ 0 rfl (Nat.zero_le _)
def fitV (v : S35) (k : Int) : Bool := okV v && (columnB k && (v.f0 == 0 || v.f0 == k))
theorem fit_eq (v : S35) (k : Int) : value_Fits.f v.f0 v.f1 v.f2 k = some (fitV v k) := by
  unfold value_Fits.f fitV
  rw [okV_eq, Option.bind_some, column_eq]
  cases okV v <;> cases columnB k <;> by_cases h : v.f0 = 0 <;> simp [h]
theorem fit_ref (v : S35) (k : Int) : Evr (fun n => instarref03_Fits.f n v.f0 v.f1 v.f2 k) (fitV v k) := by
  unfold instarref03_Fits.f fitV
  refine Evr.bind (okV_ref v) (Evr.bindc (refColumn_eq k) (Evr.const ?_))
  cases okV v <;> cases columnB k <;> by_cases h : v.f0 = 0 <;> simp [h]
def fitL : List S35 → List Int → Bool
  | v :: l, k :: m => fitV v k && fitL l m
  | _, _ => true
theorem fits_l (l : List S35) (m : List Int) (hl : l.length < 9223372036854775807) (hm : l.length = m.length) : ∀ n i, n = l.length - i → i ≤ l.length →
    Evr (fun k => api_Kind_35_value_Fits.l0 k m l (l.length : Int) (i : Int)) (fitL (l.drop i) (m.drop i))
  | n, i, hn, hi => by
    by_cases c : i < l.length
    · have c2 : i < m.length := by omega
      rw [List.drop_eq_getElem_cons c, List.drop_eq_getElem_cons c2]
      refine Evr.succ ?_
      simp only [api_Kind_35_value_Fits.l0, fitL]
      rw [rd_get c, rd_int c2]
      refine Evr.pos (by omega) (Evr.pos (by omega) (Evr.pos (by omega) (Evr.pos (by omega) (Evr.bindc (fit_eq _ _) ?_))))
      cases hb : fitV l[i] m[i] with
      | false => rw [Bool.false_and]; exact Evr.neg (by simp) (Evr.const rfl)
      | true =>
        rw [Bool.true_and]
        refine Evr.pos rfl ?_
        rw [wrap_nat (by omega)]
        exact fits_l l m hl hm (l.length - (i + 1)) (i + 1) rfl c
    · rw [List.drop_eq_nil_of_le (show l.length ≤ i by omega)]
      refine Evr.succ ?_
      simp only [api_Kind_35_value_Fits.l0, fitL]
      exact Evr.neg (by omega) (Evr.const rfl)
  termination_by n => n
theorem fits_r (l : List S35) (m : List Int) (hl : l.length < 9223372036854775807) (hm : l.length = m.length) : ∀ n i, n = l.length - i → i ≤ l.length →
    Evr (fun k => instarref05_Fits.l0 k l m (i : Int)) (fitL (l.drop i) (m.drop i))
  | n, i, hn, hi => by
    by_cases c : i < l.length
    · have c2 : i < m.length := by omega
      rw [List.drop_eq_getElem_cons c, List.drop_eq_getElem_cons c2]
      refine Evr.succ ?_
      simp only [instarref05_Fits.l0, fitL]
      rw [rd_get c, rd_int c2]
      refine Evr.pos (by omega) (Evr.pos (by omega) (Evr.pos (by omega) (Evr.bind (fit_ref _ _) ?_)))
      cases hb : fitV l[i] m[i] with
      | false => rw [Bool.false_and]; exact Evr.neg (by simp) (Evr.const rfl)
      | true =>
        rw [Bool.true_and]
        refine Evr.pos rfl ?_
        rw [wrap_nat (by omega)]
        exact fits_r l m hl hm (l.length - (i + 1)) (i + 1) rfl c
    · rw [List.drop_eq_nil_of_le (show l.length ≤ i by omega)]
      refine Evr.succ ?_
      simp only [instarref05_Fits.l0, fitL]
      exact Evr.neg (by omega) (Evr.const rfl)
  termination_by n => n
def fitR (l : List S35) (m : List Int) : Bool := okR l && (decide (l.length = m.length) && fitL l m)
theorem fits_ev (l : List S35) (m : List Int) (hl : l.length < 9223372036854775807) : Evr (fun k => row_Fits.f k l m) (fitR l m) := by
  unfold row_Fits.f fitR
  refine Evr.bind (right_ev l hl) ?_
  cases okR l with
  | false => exact Evr.neg (by simp) (Evr.const rfl)
  | true =>
    rw [Bool.true_and]
    refine Evr.pos rfl (Evr.bind ?_ (Evr.const rfl))
    unfold api_Kind_35_value_Fits.f
    by_cases c : l.length = m.length
    · rw [decide_eq_true c, Bool.true_and]
      exact Evr.pos (by omega) (by simpa using fits_l l m hl c _ 0 rfl (Nat.zero_le _))
    · rw [decide_eq_false c, Bool.false_and]
      exact Evr.neg (by omega) (Evr.const rfl)
theorem fits_rev (l : List S35) (m : List Int) (hl : l.length < 9223372036854775807) : Evr (fun k => instarref05_Fits.f k l m) (fitR l m) := by
  unfold instarref05_Fits.f fitR
  refine Evr.bind (rref_ev l hl) ?_
  cases okR l with
  | false =>
    refine Evr.neg (by simp) (Evr.succ ?_)
    simp only [instarref05_Fits.j0]
    exact Evr.pos (by simp) (Evr.const rfl)
  | true =>
    rw [Bool.true_and]
    refine Evr.pos rfl (Evr.succ ?_)
    simp only [instarref05_Fits.j0]
    by_cases c : l.length = m.length
    · rw [decide_eq_true c, Bool.true_and]
      exact Evr.neg (by simp [c]) (by simpa using fits_r l m hl c _ 0 rfl (Nat.zero_le _))
    · rw [decide_eq_false c, Bool.false_and]
      refine Evr.pos ?_ (Evr.const rfl)
      rw [bne_iff_ne]
      omega
theorem rcmp_eq (v w : S35) : instarref03_Compare.f v.f0 v.f1 v.f2 w.f0 w.f1 w.f2 = some (cmp1 v w) := by
  unfold instarref03_Compare.f cmp1
  by_cases e : v.f0 = w.f0 ∧ v.f1 = w.f1 ∧ v.f2.toList = w.f2.toList
  · rw [if_pos (by simp [e])]
    rw [(cmpV_zero _ _ _ _ _ _).2 e]
  · rw [if_neg (by simpa using e)]
    rcases cmpV_cases v.f0 v.f1 v.f2 w.f0 w.f1 w.f2 with ⟨h, c⟩ | ⟨h, c⟩ | ⟨h, c⟩
    · rw [c]
      unfold LtV at h
      by_cases h1 : v.f0 < w.f0
      · rw [if_pos h1]
      · rw [if_neg h1, if_pos (by omega)]
        by_cases h2 : v.f1 < w.f1
        · rw [if_pos h2]
        · rcases h with h | ⟨_, h | ⟨h3, h4⟩⟩
          · omega
          · omega
          · rw [if_neg h2, if_pos h3, if_pos h4]
    · exact absurd h e
    · rw [c]
      unfold LtV at h
      by_cases h1 : v.f0 < w.f0
      · exfalso; omega
      · rw [if_neg h1]
        by_cases h2 : v.f0 = w.f0
        · rw [if_pos h2]
          by_cases h3 : v.f1 < w.f1
          · exfalso; omega
          · rw [if_neg h3]
            by_cases h4 : v.f1 = w.f1
            · rw [if_pos h4]
              have h5 : Op.bytesLess w.f2.toList v.f2.toList = true := by
                rcases h with h | ⟨_, h | ⟨_, h⟩⟩
                · omega
                · omega
                · exact h
              rw [if_neg (by rw [bl_asymm h5]; simp)]
            · rw [if_neg h4]
        · rw [if_neg h2]
theorem rcomp_l (a b : List S35) (ha : a.length < 9223372036854775807) : ∀ n i, n = a.length - i → i ≤ a.length → i ≤ b.length →
    Evr (fun k => instarref04_Compare.l0 k a b (i : Int)) (cmpL (a.drop i) (b.drop i))
  | n, i, hn, hi, hj => by
    refine Evr.succ ?_
    simp only [instarref04_Compare.l0]
    by_cases c : i < a.length
    · refine Evr.pos (by omega) (Evr.succ ?_)
      simp only [instarref04_Compare.j1]
      by_cases c2 : i < b.length
      · refine Evr.pos (by simp [c2]) (Evr.pos (by omega) (Evr.pos (by omega) (Evr.pos (by omega) ?_)))
        rw [rd_get c, rd_get c2, List.drop_eq_getElem_cons c, List.drop_eq_getElem_cons c2]
        refine Evr.bindc (rcmp_eq _ _) ?_
        simp only [cmpL]
        by_cases c3 : cmp1 a[i] b[i] = 0
        · rw [if_pos c3]
          refine Evr.pos c3 ?_
          rw [wrap_nat (by omega)]
          exact rcomp_l a b ha (a.length - (i + 1)) (i + 1) rfl c c2
        · rw [if_neg c3]
          exact Evr.neg c3 (Evr.const rfl)
      · rw [List.drop_eq_getElem_cons c, List.drop_eq_nil_of_le (show b.length ≤ i by omega)]
        exact Evr.neg (by simp [c2]) (Evr.neg (by omega) (Evr.pos (by omega) (Evr.const rfl)))
    · rw [List.drop_eq_nil_of_le (show a.length ≤ i by omega)]
      refine Evr.neg (by omega) (Evr.succ ?_)
      simp only [instarref04_Compare.j1]
      refine Evr.neg (by simp) ?_
      by_cases c2 : i < b.length
      · rw [List.drop_eq_getElem_cons c2]
        exact Evr.pos (by omega) (Evr.const rfl)
      · rw [List.drop_eq_nil_of_le (show b.length ≤ i by omega)]
        exact Evr.neg (by omega) (Evr.neg (by omega) (Evr.const rfl))
  termination_by n => n
theorem rcomp_ev (a b : List S35) (ha : a.length < 9223372036854775807) : Evr (fun k => instarref05_Compare.f k a b) (cmpL a b) := by
  unfold instarref05_Compare.f instarref04_Compare.f
  exact Evr.bind (by simpa using rcomp_l a b ha _ 0 rfl (Nat.zero_le _) (Nat.zero_le _)) (Evr.const rfl)
theorem rsame_gen (a b : List S35) (ha : a.length < 9223372036854775807) (hab : a.length = b.length) : ∀ n i, n = a.length - i → i ≤ a.length →
    Evr (fun k => instarref04_Same.l0 k a b (i : Int)) (cmpL (a.drop i) (b.drop i) == 0)
  | n, i, hn, hi => by
    refine Evr.succ ?_
    simp only [instarref04_Same.l0]
    by_cases c : i < a.length
    · have c2 : i < b.length := by omega
      refine Evr.pos (by omega) (Evr.pos (by omega) (Evr.pos (by omega) ?_))
      rw [rd_get c, rd_get c2, List.drop_eq_getElem_cons c, List.drop_eq_getElem_cons c2]
      have he := eqB_cmp a[i] b[i]
      simp only [cmpL]
      by_cases c3 : cmp1 a[i] b[i] = 0
      · rw [if_pos c3]
        refine Evr.neg ?_ ?_
        · rw [c3] at he
          intro h
          rw [eqB, h] at he
          cases he
        · rw [wrap_nat (by omega)]
          exact rsame_gen a b ha hab (a.length - (i + 1)) (i + 1) rfl c
      · rw [if_neg c3]
        have e0 : (cmp1 a[i] b[i] == 0) = false := by simpa using c3
        rw [e0]
        refine Evr.pos ?_ (Evr.const rfl)
        rw [e0, eqB] at he
        have nb : ∀ x : Bool, (!x) = false → x = true := by decide
        exact nb _ he
    · rw [List.drop_eq_nil_of_le (show a.length ≤ i by omega), List.drop_eq_nil_of_le (show b.length ≤ i by omega)]
      exact Evr.neg (by omega) (Evr.const rfl)
  termination_by n => n
theorem rsame_ev (a b : List S35) (ha : a.length < 9223372036854775807) : Evr (fun k => instarref05_Same.f k a b) (cmpL a b == 0) := by
  unfold instarref05_Same.f instarref04_Same.f
  by_cases c : a.length = b.length
  · exact Evr.bind (Evr.pos (by omega) (by simpa using rsame_gen a b ha c _ 0 rfl (Nat.zero_le _))) (Evr.const rfl)
  · have : (cmpL a b == 0) = false := by
      rw [beq_eq_false_iff_ne]
      exact fun h => c (cmpL_len a b h)
    rw [this]
    exact Evr.bind (Evr.neg (by omega) (Evr.const rfl)) (Evr.const rfl)
end Go.Proofs.YtinjibbjlcfkaaaDoor.Tr
end
section
namespace Go.Proofs.YtinjibbjlcfkaaaDoor.Tf
open Go Go.RowKit Go.Proofs.YtinjibbjlcfkaaaDoorW.PrintWords Go.Proofs.YtinjibbjlcfkaaaDoor.PE Go.Proofs.YtinjibbjlcfkaaaDoor.Rk
set_option linter.unusedVariables false
set_option linter.unusedSimpArgs false
theorem dig : ∀ d : Fin 10, ((⟨#[48, 49, 50, 51, 52, 53, 54, 55, 56, 57]⟩ : ByteArray).extract d.val (d.val + 1)).data.toList = [UInt8.ofNat (48 + d.val)] := by decide +kernel
theorem dig_size (d : Nat) (h : d < 10) : ((⟨#[48, 49, 50, 51, 52, 53, 54, 55, 56, 57]⟩ : ByteArray).extract d (d + 1)).data.toList = [UInt8.ofNat (48 + d)] := dig ⟨d, h⟩
theorem size_of {X : ByteArray} {l : List UInt8} (h : X.data.toList = l) : X.size = l.length := by rw [← h]; exact Array.length_toList.symm
theorem nd_le : ∀ n u : Nat, u ≤ n → Lib.nDigits u ≤ u + 1
  | n, u, h => by
    rw [Lib.nDigits]
    split
    · omega
    · have := nd_le (n - 1) (u / 10) (by omega)
      omega
  termination_by n => n
  decreasing_by omega
theorem fig_pos : ∀ n u : Nat, u ≤ n → u < 9223372036854775808 → ∃ X, Evr (fun k => instarref03_Figures.f k (u : Int)) X ∧ X.data.toList = Lib.decDigits u
  | n, u, hn, hu => by
    have e1 : Int.tmod (u : Int) 10 = ((u % 10 : Nat) : Int) := rfl
    have e2 : Int.tdiv (u : Int) 10 = ((u / 10 : Nat) : Int) := rfl
    have hd := dig_size (u % 10) (by omega)
    have e3 : ((((u % 10 : Nat) : Int) + 1)).toNat = u % 10 + 1 := by omega
    have e4 : ((u % 10 : Nat) : Int).toNat = u % 10 := rfl
    by_cases c : u < 10
    · refine ⟨(⟨#[48, 49, 50, 51, 52, 53, 54, 55, 56, 57]⟩ : ByteArray).extract (u % 10) (u % 10 + 1), Evr.succ ?_, ?_⟩
      · simp only [instarref03_Figures.f]
        rw [e1, wrap_eq (x := ((u % 10 : Nat) : Int) + 1) (by omega) (by omega), e3, e4]
        exact Evr.neg (by omega) (Evr.pos (by omega) (Evr.pos (by omega) (Evr.pos (by omega) (Evr.neg (by omega) (Evr.const rfl)))))
      · rw [hd, Lib.decDigits_one c, Nat.mod_eq_of_lt c]
    · obtain ⟨Y, h1, h2⟩ := fig_pos (n - 1) (u / 10) (by omega) (by omega)
      have hs := size_of h2
      rw [Lib.decDigits_length] at hs
      have hs2 := nd_le _ (u / 10) (Nat.le_refl _)
      refine ⟨Y ++ (⟨#[48, 49, 50, 51, 52, 53, 54, 55, 56, 57]⟩ : ByteArray).extract (u % 10) (u % 10 + 1), Evr.succ ?_, ?_⟩
      · simp only [instarref03_Figures.f]
        rw [e1, e2, wrap_eq (x := ((u % 10 : Nat) : Int) + 1) (by omega) (by omega), wrap_eq (x := ((u / 10 : Nat) : Int)) (by omega) (by omega), e3, e4]
        exact Evr.neg (by omega) (Evr.pos (by omega) (Evr.pos (by omega) (Evr.pos (by omega) (Evr.pos (by omega) (Evr.bind h1 (Evr.pos (by omega) (Evr.const rfl)))))))
      · rw [ByteArray.data_append, Array.toList_append, h2, hd]
        conv => rhs; rw [Lib.decDigits, dif_neg c]
  termination_by n => n
  decreasing_by omega
theorem fig_neg : ∀ n u : Nat, u ≤ n → 1 ≤ u → u ≤ 9223372036854775808 → ∃ X, Evr (fun k => instarref03_Figures.f k (-(u : Int))) X ∧ X.data.toList = 45 :: Lib.decDigits u
  | n, u, hn, h1, hu => by
    by_cases c : u < 10
    · obtain ⟨Y, h2, h3⟩ := fig_pos u u (Nat.le_refl _) (by omega)
      have hs := size_of h3
      rw [Lib.decDigits_length] at hs
      have hs2 := nd_le _ u (Nat.le_refl _)
      refine ⟨(⟨#[45]⟩ : ByteArray) ++ Y, Evr.succ ?_, ?_⟩
      · simp only [instarref03_Figures.f]
        rw [Int.neg_neg, wrap_eq (x := (u : Int)) (by omega) (by omega)]
        exact Evr.pos (by omega) (Evr.pos (by omega) (Evr.bind h2 (Evr.pos (by omega) (Evr.const rfl))))
      · rw [ByteArray.data_append, Array.toList_append, h3]
        rfl
    · have e1 : Int.tmod (-(u : Int)) 10 = -((u % 10 : Nat) : Int) := by rw [Int.neg_tmod]; rfl
      have e2 : Int.tdiv (-(u : Int)) 10 = -((u / 10 : Nat) : Int) := by rw [Int.neg_tdiv]; rfl
      have hd := dig_size (u % 10) (by omega)
      have e3 : ((((u % 10 : Nat) : Int) + 1)).toNat = u % 10 + 1 := by omega
      have e4 : ((u % 10 : Nat) : Int).toNat = u % 10 := rfl
      obtain ⟨Y, h2, h3⟩ := fig_neg (n - 1) (u / 10) (by omega) (by omega) (by omega)
      have hs := size_of h3
      rw [List.length_cons, Lib.decDigits_length] at hs
      have hs2 := nd_le _ (u / 10) (Nat.le_refl _)
      refine ⟨Y ++ (⟨#[48, 49, 50, 51, 52, 53, 54, 55, 56, 57]⟩ : ByteArray).extract (u % 10) (u % 10 + 1), Evr.succ ?_, ?_⟩
      · simp only [instarref03_Figures.f]
        simp only [e1, e2, Int.neg_neg]
        rw [wrap_eq (x := ((u % 10 : Nat) : Int)) (by omega) (by omega), wrap_eq (x := ((u % 10 : Nat) : Int) + 1) (by omega) (by omega), wrap_eq (x := -((u / 10 : Nat) : Int)) (by omega) (by omega), e3, e4]
        exact Evr.pos (by omega) (Evr.neg (by omega) (Evr.bind h2 (Evr.pos (by omega) (Evr.pos (by omega) (Evr.pos (by omega) (Evr.pos (by omega) (Evr.const rfl)))))))
      · rw [ByteArray.data_append, Array.toList_append, h3, hd]
        conv => rhs; rw [Lib.decDigits, dif_neg c]
        rfl
  termination_by n => n
  decreasing_by omega
theorem fig_ev {n : Int} (h0 : -9223372036854775808 ≤ n) (h1 : n ≤ 9223372036854775807) : ∃ X, Evr (fun k => instarref03_Figures.f k n) X ∧ X.data.toList = Lib.itoa n := by
  by_cases c : n < 0
  · obtain ⟨X, h2, h3⟩ := fig_neg n.natAbs n.natAbs (Nat.le_refl _) (by omega) (by omega)
    have e : -(n.natAbs : Int) = n := by omega
    rw [e] at h2
    refine ⟨X, h2, ?_⟩
    rw [h3, Lib.itoa, if_pos c]
  · obtain ⟨X, h2, h3⟩ := fig_pos n.toNat n.toNat (Nat.le_refl _) (by omega)
    have e : (n.toNat : Int) = n := by omega
    rw [e] at h2
    refine ⟨X, h2, ?_⟩
    rw [h3, Lib.itoa, if_neg c]
end Go.Proofs.YtinjibbjlcfkaaaDoor.Tf
end
section
namespace Go.Proofs.YtinjibbjlcfkaaaDoor.Ts
open Go Go.RowKit Go.Proofs.YtinjibbjlcfkaaaDoorW.PrintWords Go.Proofs.YtinjibbjlcfkaaaDoor.PE Go.Proofs.YtinjibbjlcfkaaaDoor.Rk Go.Proofs.YtinjibbjlcfkaaaDoor.Vo Go.Proofs.YtinjibbjlcfkaaaDoor.Ro Go.Proofs.YtinjibbjlcfkaaaDoor.Vr Go.Proofs.YtinjibbjlcfkaaaDoor.Tr Go.Proofs.YtinjibbjlcfkaaaDoor.Ko Go.Proofs.YtinjibbjlcfkaaaDoor.Tf
set_option linter.unusedVariables false
set_option linter.unusedSimpArgs false
def I64 (n : Int) : Prop := -9223372036854775808 ≤ n ∧ n ≤ 9223372036854775807
theorem dl (s : ByteArray) : s.data.toList.length = s.size := Array.length_toList
theorem bt_get {s : ByteArray} {i : Nat} (h : i < s.data.toList.length) : bt s (i : Int) = ((s.data.toList[i]).toNat : Int) := by
  have h' : i < s.size := by rw [← dl]; exact h
  simp only [bt, Int.toNat_natCast, dif_pos h']
  rfl
theorem ext_one {s : ByteArray} {i : Nat} (h : i < s.data.toList.length) : (s.extract i (i + 1)).data.toList = [s.data.toList[i]] := by
  rw [Lib.extract_data, show i + 1 - i = 1 by omega, List.drop_eq_getElem_cons h]
  rfl
theorem repl39_len : ∀ s : List UInt8, (repl1 39 [39, 39] s).length ≤ 2 * s.length
  | [] => by simp [repl1]
  | c :: s => by
    have := repl39_len s
    unfold repl1
    split <;> simp only [List.length_cons, List.length_append, List.length_nil] <;> omega
theorem z39 : (⟨#[39]⟩ : ByteArray).size = 1 := rfl
theorem repl_hit (s : List UInt8) : repl1 39 [39, 39] (39 :: s) = 39 :: 39 :: repl1 39 [39, 39] s := rfl
theorem repl_miss {c : UInt8} (h : ¬ c = 39) (s : List UInt8) : repl1 39 [39, 39] (c :: s) = c :: repl1 39 [39, 39] s := by rw [repl1, if_neg h]
theorem quote_l (K N : Int) (S : ByteArray) (hS : S.size ≤ 200) : ∀ n i (acc : ByteArray), n + i = S.size → acc.size ≤ 2 * i + 1 →
    ∃ X, Evr (fun k => instarref03_Show.l0 k acc (i : Int) K N S) X ∧ X.data.toList = acc.data.toList ++ (repl1 39 [39, 39] (S.data.toList.drop i) ++ [39])
  | 0, i, acc, hn, ha => by
    have hL := dl S
    refine ⟨acc ++ (⟨#[39]⟩ : ByteArray), Evr.succ ?_, ?_⟩
    · simp only [instarref03_Show.l0]
      exact Evr.neg (by omega) (Evr.pos (by omega) (Evr.const rfl))
    · rw [List.drop_eq_nil_of_le (by omega), ByteArray.data_append, Array.toList_append]
      rfl
  | n + 1, i, acc, hn, ha => by
    have hL := dl S
    have c : i < S.size := by omega
    have c' : i < S.data.toList.length := by omega
    have e1 : wrap64 ((i : Int) + 1) = ((i + 1 : Nat) : Int) := wrap_nat (by omega)
    have hx := ext_one c'
    have hz : (S.extract i (i + 1)).size = 1 := by rw [← dl, hx]; rfl
    have hn' : n + (i + 1) = S.size := by omega
    have t1 : (i : Int) < (S.size : Int) := by omega
    have t2 : 0 ≤ (i : Int) := by omega
    have t3 : (i : Int) ≤ ((i + 1 : Nat) : Int) := by omega
    have t4 : ((i + 1 : Nat) : Int) ≤ (S.size : Int) := by omega
    have t5 : acc.size + (i + 1 - i) ≤ 9223372036854775807 := by omega
    have t6 : acc.size + (i + 1 - i) + 1 ≤ 9223372036854775807 := by omega
    by_cases q : S.data.toList[i] = 39
    · have hs : ((acc ++ S.extract i (i + 1)) ++ (⟨#[39]⟩ : ByteArray)).size ≤ 2 * (i + 1) + 1 := by
        rw [ByteArray.size_append, ByteArray.size_append, hz, z39]; omega
      obtain ⟨X, h1, h2⟩ := quote_l K N S hS n (i + 1) ((acc ++ S.extract i (i + 1)) ++ (⟨#[39]⟩ : ByteArray)) hn' hs
      refine ⟨X, Evr.succ ?_, ?_⟩
      · simp only [instarref03_Show.l0, e1, bt_get c', q, Int.toNat_natCast]
        exact Evr.pos t1 (Evr.pos t2 (Evr.pos t3 (Evr.pos t4 (Evr.pos t5 (Evr.pos (by decide) (Evr.pos t6 h1))))))
      · rw [h2, List.drop_eq_getElem_cons c', ByteArray.data_append, ByteArray.data_append, Array.toList_append, Array.toList_append, hx, q, repl_hit]
        simp only [List.append_assoc, List.cons_append, List.nil_append]
    · have hs : (acc ++ S.extract i (i + 1)).size ≤ 2 * (i + 1) + 1 := by
        rw [ByteArray.size_append, hz]; omega
      obtain ⟨X, h1, h2⟩ := quote_l K N S hS n (i + 1) (acc ++ S.extract i (i + 1)) hn' hs
      have q' : ¬ ((S.data.toList[i]).toNat : Int) = 39 := fun h => q (UInt8.toNat_inj.1 (by show _ = 39; omega))
      refine ⟨X, Evr.succ ?_, ?_⟩
      · simp only [instarref03_Show.l0, e1, bt_get c', Int.toNat_natCast]
        exact Evr.pos t1 (Evr.pos t2 (Evr.pos t3 (Evr.pos t4 (Evr.pos t5 (Evr.neg q' h1)))))
      · rw [h2, List.drop_eq_getElem_cons c', ByteArray.data_append, Array.toList_append, hx, repl_miss q]
        simp only [List.append_assoc, List.cons_append, List.nil_append]
def showL (v : S35) : List UInt8 :=
  if okV v = true then if v.f0 = 0 then [110, 117, 108, 108] else if v.f0 = 1 then (if v.f1 = 1 then [116, 114, 117, 101] else [102, 97, 108, 115, 101])
    else if v.f0 = 4 then 39 :: (repl1 39 [39, 39] v.f2.data.toList ++ [39]) else Lib.itoa v.f1
  else [63]
theorem ok4 {v : S35} (h : okV v = true) (h4 : v.f0 = 4) : v.f2.size ≤ 200 := by
  unfold okV rightB at h
  rw [if_pos h4] at h
  have := of_decide_eq_true h
  omega
theorem show_len {v : S35} (hi : I64 v.f1) : (showL v).length ≤ 402 := by
  unfold showL
  by_cases h : okV v = true
  · rw [if_pos h]
    split
    · simp
    split
    · split <;> simp
    split
    · rename_i _ _ h4
      have h1 := ok4 h h4
      have h2 := repl39_len v.f2.data.toList
      rw [dl] at h2
      simp only [List.length_cons, List.length_append, List.length_nil]
      omega
    · have := Lib.itoa_length_le v.f1 hi.1 hi.2
      omega
  · rw [if_neg h]; simp
theorem repl39 {s : ByteArray} (h : s.size ≤ 200) : ∃ t, strings_ReplaceAll.f s ⟨#[39]⟩ ⟨#[39, 39]⟩ = some t ∧ t.data.toList = repl1 39 [39, 39] s.data.toList := by
  have hc : Lib.countB s ⟨#[39]⟩ ≤ 201 := by
    have h1 := Lib.count_le s.data.toList [39]
    have h2 : s.data.toList.length = s.size := Array.length_toList
    have h3 : Lib.countB s ⟨#[39]⟩ = Lib.count s.data.toList [39] := by first | rfl | simp [Lib.countB]
    omega
  refine ⟨_, by unfold strings_ReplaceAll.f; rw [if_pos (by omega), if_pos (by decide), if_pos (by rw [show (⟨#[39, 39]⟩ : ByteArray).size = 2 from rfl]; omega)], ?_⟩
  show Lib.replaceAll s.data.toList [39] [39, 39] = _
  rw [replaceAll_one 39 [39, 39] _ (by decide)]
theorem show_v (v : S35) (hi : I64 v.f1) : ∃ X, value_Show.f v.f0 v.f1 v.f2 = some X ∧ X.data.toList = showL v := by
  unfold value_Show.f showL
  rw [okV_eq, Option.bind_some]
  by_cases h : okV v = true
  · rw [if_pos h, if_pos h]
    by_cases h0 : v.f0 = 0
    · rw [if_pos h0, if_pos h0]; exact ⟨_, rfl, rfl⟩
    rw [if_neg h0, if_neg h0]
    by_cases h1 : v.f0 = 1
    · rw [if_pos h1, if_pos h1]
      simp only [strconv_FormatBool_44.f, strconv_FormatBool_61.f]
      by_cases hn : v.f1 = 1
      · rw [if_pos hn, if_pos (by simp [hn])]; exact ⟨_, rfl, rfl⟩
      · rw [if_neg hn, if_neg (by simp [hn])]; exact ⟨_, rfl, rfl⟩
    rw [if_neg h1, if_neg h1]
    by_cases h4 : v.f0 = 4
    · rw [if_pos h4, if_pos h4]
      have hs := ok4 h h4
      obtain ⟨t, e1, e2⟩ := repl39 hs
      have hl := repl39_len v.f2.data.toList
      rw [dl] at hl
      have ht : t.size ≤ 400 := by rw [← dl, e2]; omega
      rw [e1, Option.bind_some, if_pos (by omega), if_pos (by omega)]
      refine ⟨_, rfl, ?_⟩
      rw [ByteArray.data_append, ByteArray.data_append, Array.toList_append, Array.toList_append, e2]
      rfl
    · rw [if_neg h4, if_neg h4]
      unfold strconv_FormatInt.f
      rw [if_pos rfl, if_pos hi.1, if_pos hi.2]
      exact ⟨_, rfl, rfl⟩
  · rw [if_neg h, if_neg h]; exact ⟨_, rfl, rfl⟩
theorem show_rv (v : S35) (hi : I64 v.f1) : ∃ X, Evr (fun k => instarref03_Show.f k v.f0 v.f1 v.f2) X ∧ X.data.toList = showL v := by
  unfold instarref03_Show.f showL
  by_cases h : okV v = true
  · rw [if_pos h]
    have hr : ∀ {X : ByteArray} {g : Nat → Option ByteArray}, Evr g X → Evr (fun k => (instarref03_Right.f k v.f0 v.f1 v.f2).bind fun t102 => if t102 = true then g k else some (⟨#[63]⟩ : ByteArray)) X := fun hg => Evr.bind (okV_ref v) (Evr.pos h hg)
    by_cases h0 : v.f0 = 0
    · rw [if_pos h0]; exact ⟨_, hr (Evr.pos h0 (Evr.const rfl)), rfl⟩
    rw [if_neg h0]
    by_cases h1 : v.f0 = 1
    · rw [if_pos h1]
      by_cases hn : v.f1 = 1
      · rw [if_pos hn, if_pos hn]; exact ⟨_, hr (Evr.neg h0 (Evr.pos h1 (Evr.const rfl))), rfl⟩
      · rw [if_neg hn, if_neg hn]; exact ⟨_, hr (Evr.neg h0 (Evr.pos h1 (Evr.const rfl))), rfl⟩
    rw [if_neg h1]
    by_cases h4 : v.f0 = 4
    · rw [if_pos h4]
      obtain ⟨X, e1, e2⟩ := quote_l v.f0 v.f1 v.f2 (ok4 h h4) v.f2.size 0 (⟨#[39]⟩ : ByteArray) rfl (Nat.le_of_eq z39)
      exact ⟨X, hr (Evr.neg h0 (Evr.neg h1 (Evr.pos h4 e1))), by rw [e2, List.drop_zero]; rfl⟩
    · rw [if_neg h4]
      obtain ⟨X, e1, e2⟩ := fig_ev hi.1 hi.2
      exact ⟨X, hr (Evr.neg h0 (Evr.neg h1 (Evr.neg h4 (Evr.bind e1 (Evr.const rfl))))), e2⟩
  · rw [if_neg h]
    exact ⟨_, Evr.bind (okV_ref v) (Evr.neg h (Evr.const rfl)), rfl⟩
def tailL (l : List S35) : List UInt8 := (l.map fun v => 44 :: 32 :: showL v).flatten
theorem tail_len (l : List S35) (h : ∀ v ∈ l, I64 v.f1) : (tailL l).length ≤ 404 * l.length := by
  induction l with
  | nil => simp [tailL]
  | cons v l ih =>
    have h1 := show_len (h v (by simp))
    have h2 := ih fun w hw => h w (by simp [hw])
    simp only [tailL, List.map_cons, List.flatten_cons, List.length_append, List.length_cons] at h2 ⊢
    omega
def joinL : List S35 → List UInt8
  | [] => []
  | v :: l => showL v ++ tailL l
theorem join_showL (l : List S35) (t : List ByteArray) (h : t.map (·.data.toList) = l.map showL) : Lib.join (t.map (·.data.toList)) [44, 32] = joinL l := by
  rw [h]
  cases l with
  | nil => rfl
  | cons v l =>
    rw [List.map_cons, Lib.join_cons]
    simp [joinL, tailL, Lib.joinTail, List.map_map, Function.comp_def]
theorem show_l (l : List S35) (hl : l.length ≤ 30) (h : ∀ v ∈ l, I64 v.f1) : ∀ n i (acc : List ByteArray), n = l.length - i → i ≤ l.length → acc.map (·.data.toList) = (l.take i).map showL →
    ∃ X, Evr (fun k => row_Show.l0 k acc l (l.length : Int) (i : Int)) X ∧ X.data.toList = 40 :: (joinL l ++ [41])
  | n, i, acc, hn, hi, ha => by
    by_cases c : i < l.length
    · obtain ⟨Y, e1, e2⟩ := show_v l[i] (h _ (List.getElem_mem _))
      have hal : acc.length = i := by
        have := congrArg List.length ha
        rw [List.length_map, List.length_map, List.length_take] at this
        omega
      obtain ⟨X, h1, h2⟩ := show_l l hl h (l.length - (i + 1)) (i + 1) (acc ++ [Y]) rfl c (by rw [List.map_append, ha, List.take_succ_eq_append_getElem c, List.map_append]; simp [e2])
      refine ⟨X, Evr.succ ?_, h2⟩
      simp only [row_Show.l0]
      rw [rd_get c]
      refine Evr.pos (by omega) (Evr.pos (by omega) (Evr.pos (by omega) (Evr.bindc e1 (Evr.pos (by omega) ?_))))
      rw [wrap_nat (by omega)]
      exact h1
    · have hi' : i = l.length := by omega
      rw [hi', List.take_length] at ha
      have hj := join_showL l acc ha
      have hal : acc.length = l.length := by
        have := congrArg List.length ha
        rwa [List.length_map, List.length_map] at this
      have hlen : (joinL l).length ≤ 20000 := by
        cases l with
        | nil => simp [joinL]
        | cons v l =>
          have h1 := show_len (h v (by simp))
          have h2 := tail_len l fun w hw => h w (by simp [hw])
          simp only [joinL, List.length_append, List.length_cons] at *
          omega
      have hJ : strings_Join.f acc (⟨#[44, 32]⟩ : ByteArray) = some ⟨(joinL l).toArray⟩ := by
        unfold strings_Join.f
        rw [if_pos (by omega)]
        show (if (Lib.join (acc.map (·.data.toList)) [44, 32]).length ≤ 140737488355328 then some (⟨(Lib.join (acc.map (·.data.toList)) [44, 32]).toArray⟩ : ByteArray) else none) = _
        rw [hj, if_pos (by omega)]
      have hz : (⟨(joinL l).toArray⟩ : ByteArray).size = (joinL l).length := by rw [← dl]
      refine ⟨((⟨#[40]⟩ : ByteArray) ++ ⟨(joinL l).toArray⟩) ++ (⟨#[41]⟩ : ByteArray), Evr.succ ?_, ?_⟩
      · simp only [row_Show.l0]
        exact Evr.neg (by omega) (Evr.bindc hJ (Evr.pos (by omega) (Evr.pos (by omega) (Evr.const rfl))))
      · rw [ByteArray.data_append, ByteArray.data_append, Array.toList_append, Array.toList_append]
        simp
  termination_by n => n
theorem show_ev (l : List S35) (hl : l.length ≤ 30) (h : ∀ v ∈ l, I64 v.f1) : ∃ X, Evr (fun k => row_Show.f k l) X ∧ X.data.toList = 40 :: (joinL l ++ [41]) := by
  unfold row_Show.f
  exact show_l l hl h _ 0 [] rfl (Nat.zero_le _) rfl
theorem rshow_l (l : List S35) (hl : l.length ≤ 30) (h : ∀ v ∈ l, I64 v.f1) : ∀ n i (acc : ByteArray), n = l.length - i → 1 ≤ i → i ≤ l.length → acc.size ≤ 404 * i + 1 →
    ∃ X, Evr (fun k => instarref05_Show.l0 k l acc (i : Int)) X ∧ X.data.toList = acc.data.toList ++ (tailL (l.drop i) ++ [41])
  | n, i, acc, hn, h0, hi, ha => by
    by_cases c : i < l.length
    · obtain ⟨Y, e1, e2⟩ := show_rv l[i] (h _ (List.getElem_mem _))
      have hy : Y.size ≤ 402 := by rw [← dl, e2]; exact show_len (h _ (List.getElem_mem _))
      have z2 : (⟨#[44, 32]⟩ : ByteArray).size = 2 := rfl
      obtain ⟨X, h1, h2⟩ := rshow_l l hl h (l.length - (i + 1)) (i + 1) ((acc ++ (⟨#[44, 32]⟩ : ByteArray)) ++ Y) rfl (by omega) c (by rw [ByteArray.size_append, ByteArray.size_append]; omega)
      refine ⟨X, Evr.succ ?_, ?_⟩
      · simp only [instarref05_Show.l0]
        rw [rd_get c]
        refine Evr.pos (by omega) (Evr.pos (by omega) (Evr.pos (by omega) (Evr.pos (by omega) (Evr.bind e1 (Evr.pos (by omega) ?_)))))
        rw [wrap_nat (by omega)]
        exact h1
      · rw [h2, List.drop_eq_getElem_cons c, ByteArray.data_append, ByteArray.data_append, Array.toList_append, Array.toList_append, e2]
        simp only [tailL, List.map_cons, List.flatten_cons, List.append_assoc, List.cons_append, List.nil_append]
    · refine ⟨acc ++ (⟨#[41]⟩ : ByteArray), Evr.succ ?_, ?_⟩
      · simp only [instarref05_Show.l0]
        exact Evr.neg (by omega) (Evr.pos (by omega) (Evr.const rfl))
      · rw [List.drop_eq_nil_of_le (by omega), ByteArray.data_append, Array.toList_append]
        rfl
  termination_by n => n
theorem rshow_ev (l : List S35) (hl : l.length ≤ 30) (h : ∀ v ∈ l, I64 v.f1) : ∃ X, Evr (fun k => instarref05_Show.f k l) X ∧ X.data.toList = 40 :: (joinL l ++ [41]) := by
  unfold instarref05_Show.f
  have z1 : (⟨#[40]⟩ : ByteArray).size = 1 := rfl
  cases l with
  | nil =>
    refine ⟨(⟨#[40]⟩ : ByteArray) ++ (⟨#[41]⟩ : ByteArray), Evr.succ ?_, rfl⟩
    simp only [instarref05_Show.l0]
    exact Evr.neg (by simp) (Evr.pos (by decide) (Evr.const rfl))
  | cons v m =>
    obtain ⟨Y, e1, e2⟩ := show_rv v (h _ (by simp))
    have hy : Y.size ≤ 402 := by rw [← dl, e2]; exact show_len (h _ (by simp))
    obtain ⟨X, h1, h2⟩ := rshow_l (v :: m) hl h ((v :: m).length - 1) 1 ((⟨#[40]⟩ : ByteArray) ++ Y) rfl (Nat.le_refl _) (by simp) (by rw [ByteArray.size_append]; omega)
    refine ⟨X, Evr.succ ?_, ?_⟩
    · simp only [instarref05_Show.l0]
      rw [show wrap64 (0 + 1) = ((1 : Nat) : Int) by unfold wrap64; omega]
      refine Evr.pos (by simp only [List.length_cons]; omega) (Evr.neg (by omega) (Evr.pos (by omega) (Evr.bind e1 (Evr.pos (by omega) ?_))))
      exact h1
    · rw [h2, ByteArray.data_append, Array.toList_append, e2]
      simp only [joinL, List.drop_succ_cons, List.drop_zero, List.append_assoc, List.cons_append, List.nil_append]
end Go.Proofs.YtinjibbjlcfkaaaDoor.Ts
end
section
namespace Go.Proofs.YtinjibbjlcfkaaaDoor.Tk
open Go Go.RowKit Go.Proofs.YtinjibbjlcfkaaaDoorW.PrintWords Go.Proofs.YtinjibbjlcfkaaaDoor.PE Go.Proofs.YtinjibbjlcfkaaaDoor.Rk Go.Proofs.YtinjibbjlcfkaaaDoor.Vo Go.Proofs.YtinjibbjlcfkaaaDoor.Ro Go.Proofs.YtinjibbjlcfkaaaDoor.Vr Go.Proofs.YtinjibbjlcfkaaaDoor.Tr Go.Proofs.YtinjibbjlcfkaaaDoor.Ko Go.Proofs.YtinjibbjlcfkaaaDoor.Ke Go.Proofs.YtinjibbjlcfkaaaDoor.Kk
open Go.Proofs.YtinjibbjlcfkaaaDoor.Ts (dl bt_get ext_one)
set_option linter.unusedVariables false
set_option linter.unusedSimpArgs false
theorem zero_step (k : Nat) (a : Int) (xs : List Int) (j : Nat) (hj : j < 8) (hx : xs.length < 100) : instarref01_Put.l0 (k + 1) a xs (j : Int) = instarref01_Put.l0 k a (xs ++ [0]) ((j + 1 : Nat) : Int) := by
  simp only [instarref01_Put.l0]
  rw [if_pos (by omega), if_pos (by omega), wrap_nat (by omega)]
theorem put_step (k n i : Nat) (xs : List Int) (hi : i < xs.length) (h8 : i < 8) (hn : n < 18446744073709551616) : instarref01_Put.l1 (k + 1) (n : Int) xs (i : Int) = instarref01_Put.l1 k ((n / 256 : Nat) : Int) (xs.set i ((n % 256 : Nat) : Int)) ((i : Int) - 1) := by
  have e1 : Int.tmod (n : Int) 256 = ((n % 256 : Nat) : Int) := rfl
  have e2 : Int.tdiv (n : Int) 256 = ((n / 256 : Nat) : Int) := rfl
  simp only [instarref01_Put.l1, e1, e2, Int.toNat_natCast]
  rw [if_pos (by omega), if_pos (by omega), if_pos (by omega), IntKind.wrap_u64, wrap_eq (by omega) (by omega)]
  rw [show ((n / 256 : Nat) : Int) % 18446744073709551616 = ((n / 256 : Nat) : Int) by omega, show ((n % 256 : Nat) : Int) % 256 = ((n % 256 : Nat) : Int) by omega]
theorem put_end (k : Nat) (a : Int) (xs : List Int) : instarref01_Put.l1 (k + 1) a xs (-1) = some (strOfNums xs) := by
  simp [instarref01_Put.l1]
def digs (n : Nat) : List Int := [((n / 256 / 256 / 256 / 256 / 256 / 256 / 256 % 256 : Nat) : Int), ((n / 256 / 256 / 256 / 256 / 256 / 256 % 256 : Nat) : Int), ((n / 256 / 256 / 256 / 256 / 256 % 256 : Nat) : Int), ((n / 256 / 256 / 256 / 256 % 256 : Nat) : Int), ((n / 256 / 256 / 256 % 256 : Nat) : Int), ((n / 256 / 256 % 256 : Nat) : Int), ((n / 256 % 256 : Nat) : Int), ((n % 256 : Nat) : Int)]
theorem put_at (n : Nat) (hn : n < 18446744073709551616) : instarref01_Put.f 20 (n : Int) = some (strOfNums (digs n)) := by
  unfold instarref01_Put.f
  rw [show (0 : Int) = ((0 : Nat) : Int) from rfl, zero_step 19 _ _ 0 (by omega) (by simp), zero_step 18 _ _ 1 (by omega) (by simp), zero_step 17 _ _ 2 (by omega) (by simp), zero_step 16 _ _ 3 (by omega) (by simp), zero_step 15 _ _ 4 (by omega) (by simp), zero_step 14 _ _ 5 (by omega) (by simp), zero_step 13 _ _ 6 (by omega) (by simp), zero_step 12 _ _ 7 (by omega) (by simp)]
  have e8 : ∀ (a : Int) xs, instarref01_Put.l0 12 a xs ((8 : Nat) : Int) = instarref01_Put.l1 11 a xs ((7 : Nat) : Int) := fun a xs => by simp [instarref01_Put.l0]
  rw [e8]
  rw [put_step 10 n 7 _ (by simp) (by omega) hn, show (((7 : Nat) : Int) - 1) = ((6 : Nat) : Int) from rfl, put_step 9 _ 6 _ (by simp) (by omega) (by omega), show (((6 : Nat) : Int) - 1) = ((5 : Nat) : Int) from rfl,
    put_step 8 _ 5 _ (by simp) (by omega) (by omega), show (((5 : Nat) : Int) - 1) = ((4 : Nat) : Int) from rfl, put_step 7 _ 4 _ (by simp) (by omega) (by omega), show (((4 : Nat) : Int) - 1) = ((3 : Nat) : Int) from rfl,
    put_step 6 _ 3 _ (by simp) (by omega) (by omega), show (((3 : Nat) : Int) - 1) = ((2 : Nat) : Int) from rfl, put_step 5 _ 2 _ (by simp) (by omega) (by omega), show (((2 : Nat) : Int) - 1) = ((1 : Nat) : Int) from rfl,
    put_step 4 _ 1 _ (by simp) (by omega) (by omega), show (((1 : Nat) : Int) - 1) = ((0 : Nat) : Int) from rfl, put_step 3 _ 0 _ (by simp) (by omega) (by omega), show (((0 : Nat) : Int) - 1) = -1 from rfl, put_end]
  rfl
theorem put_ev (n : Nat) (hn : n < 18446744073709551616) : ∃ X, Evr (fun k => instarref01_Put.f k (n : Int)) X ∧ X.data.toList = be 8 n ∧ (X.extract 4 X.size).data.toList = be 4 n ∧ X.size = 8 := by
  refine ⟨_, Evr.mono (put_at n hn) (instarref01_Put.mono (n : Int)), ?_, ?_, rfl⟩
  · rw [strOfNums_data]
    simp only [digs, List.map_cons, List.map_nil, be, Int.toNat_natCast]
    refine List.cons_eq_cons.2 ⟨?_, List.cons_eq_cons.2 ⟨?_, List.cons_eq_cons.2 ⟨?_, List.cons_eq_cons.2 ⟨?_, List.cons_eq_cons.2 ⟨?_, List.cons_eq_cons.2 ⟨?_, List.cons_eq_cons.2 ⟨?_, List.cons_eq_cons.2 ⟨?_, rfl⟩⟩⟩⟩⟩⟩⟩⟩
    all_goals
      apply UInt8.toNat_inj.1
      simp only [UInt8.toNat_ofNat', Nat.reducePow]
      omega
  · have e : ((strOfNums (digs n)).extract 4 (strOfNums (digs n)).size).data.toList = ((digs n).drop 4).map fun n : Int => UInt8.ofNat n.toNat := rfl
    rw [e]
    simp only [digs, List.drop, List.map_cons, List.map_nil, be, Int.toNat_natCast]
    refine List.cons_eq_cons.2 ⟨?_, List.cons_eq_cons.2 ⟨?_, List.cons_eq_cons.2 ⟨?_, List.cons_eq_cons.2 ⟨?_, rfl⟩⟩⟩⟩
    all_goals
      apply UInt8.toNat_inj.1
      simp only [UInt8.toNat_ofNat', Nat.reducePow]
      omega
theorem z255 : (⟨#[255]⟩ : ByteArray).size = 1 := rfl
theorem esc_hit (s : List UInt8) : esc (0 :: s) = 0 :: 255 :: esc s := rfl
theorem esc_miss {c : UInt8} (h : ¬ c = 0) (s : List UInt8) : esc (c :: s) = c :: esc s := by rw [esc, if_neg h]
theorem esc_l (K N : Int) (S : ByteArray) (hS : S.size ≤ 200) : ∀ n i (acc : ByteArray), n + i = S.size → acc.size ≤ 2 * i + 1 →
    ∃ X, Evr (fun k => instarref04_One.l0 k acc (i : Int) K N S) X ∧ X.data.toList = acc.data.toList ++ (esc (S.data.toList.drop i) ++ [0, 0])
  | 0, i, acc, hn, ha => by
    have hL := dl S
    refine ⟨acc ++ (⟨#[0, 0]⟩ : ByteArray), Evr.succ ?_, ?_⟩
    · simp only [instarref04_One.l0]
      exact Evr.neg (by omega) (Evr.pos (by omega) (Evr.const rfl))
    · rw [List.drop_eq_nil_of_le (by omega), ByteArray.data_append, Array.toList_append]
      rfl
  | n + 1, i, acc, hn, ha => by
    have hL := dl S
    have c : i < S.size := by omega
    have c' : i < S.data.toList.length := by omega
    have e1 : wrap64 ((i : Int) + 1) = ((i + 1 : Nat) : Int) := wrap_nat (by omega)
    have hx := ext_one c'
    have hz : (S.extract i (i + 1)).size = 1 := by rw [← dl, hx]; rfl
    have hn' : n + (i + 1) = S.size := by omega
    have t1 : (i : Int) < (S.size : Int) := by omega
    have t2 : 0 ≤ (i : Int) := by omega
    have t3 : (i : Int) ≤ ((i + 1 : Nat) : Int) := by omega
    have t4 : ((i + 1 : Nat) : Int) ≤ (S.size : Int) := by omega
    have t5 : acc.size + (i + 1 - i) ≤ 9223372036854775807 := by omega
    have t6 : acc.size + (i + 1 - i) + 1 ≤ 9223372036854775807 := by omega
    by_cases q : S.data.toList[i] = 0
    · have hs : ((acc ++ S.extract i (i + 1)) ++ (⟨#[255]⟩ : ByteArray)).size ≤ 2 * (i + 1) + 1 := by
        rw [ByteArray.size_append, ByteArray.size_append, hz, z255]; omega
      obtain ⟨X, h1, h2⟩ := esc_l K N S hS n (i + 1) ((acc ++ S.extract i (i + 1)) ++ (⟨#[255]⟩ : ByteArray)) hn' hs
      refine ⟨X, Evr.succ ?_, ?_⟩
      · simp only [instarref04_One.l0, e1, bt_get c', q, Int.toNat_natCast]
        exact Evr.pos t1 (Evr.pos t2 (Evr.pos t3 (Evr.pos t4 (Evr.pos t5 (Evr.pos (by decide) (Evr.pos t6 h1))))))
      · rw [h2, List.drop_eq_getElem_cons c', ByteArray.data_append, ByteArray.data_append, Array.toList_append, Array.toList_append, hx, q, esc_hit]
        simp only [List.append_assoc, List.cons_append, List.nil_append]
    · have hs : (acc ++ S.extract i (i + 1)).size ≤ 2 * (i + 1) + 1 := by
        rw [ByteArray.size_append, hz]; omega
      obtain ⟨X, h1, h2⟩ := esc_l K N S hS n (i + 1) (acc ++ S.extract i (i + 1)) hn' hs
      have q' : ¬ ((S.data.toList[i]).toNat : Int) = 0 := fun h => q (UInt8.toNat_inj.1 (by show _ = 0; omega))
      refine ⟨X, Evr.succ ?_, ?_⟩
      · simp only [instarref04_One.l0, e1, bt_get c', Int.toNat_natCast]
        exact Evr.pos t1 (Evr.pos t2 (Evr.pos t3 (Evr.pos t4 (Evr.pos t5 (Evr.neg q' h1)))))
      · rw [h2, List.drop_eq_getElem_cons c', ByteArray.data_append, Array.toList_append, hx, esc_miss q]
        simp only [List.append_assoc, List.cons_append, List.nil_append]
theorem s1 (a : Int) : (strOfNums [a]).size = 1 := rfl
theorem s1d (a : Int) : (strOfNums [a]).data.toList = [UInt8.ofNat a.toNat] := by rw [strOfNums_data]; rfl
theorem one_r {v : S35} (h : RightV v) (i : I64 v.f1) : ∃ X, Evr (fun k => instarref04_One.f k v.f0 v.f1 v.f2) X ∧ X.data.toList = encB v := by
  unfold instarref04_One.f encB
  rcases h with ⟨a, b, c⟩ | ⟨a, b, c⟩ | ⟨a, b, c⟩ | ⟨a, c⟩ | ⟨a, b, c⟩
  · simp only [a, Option.bind_some, if_true]
    exact ⟨_, Evr.neg (by omega) (Evr.neg (by omega) (Evr.neg (by omega) (Evr.neg (by omega) (Evr.const rfl)))), by decide⟩
  · simp only [a, k10, Option.bind_some, if_true, if_false]
    refine ⟨_, Evr.pos (by rw [s1, s1]; decide) (Evr.const rfl), ?_⟩
    rw [ByteArray.data_append, Array.toList_append, s1d, s1d]
    rcases b with b | b <;> rw [b] <;> decide
  · simp only [a, k20, k21, Option.bind_some, if_true, if_false]
    obtain ⟨n, hn⟩ := Int.eq_ofNat_of_zero_le (show 0 ≤ v.f1 + 2147483648 by omega)
    have e : IntKind.u64.wrap (wrap64 (v.f1 + 2147483648)) = (n : Int) := by rw [wrap_eq (by omega) (by omega), IntKind.wrap_u64]; omega
    obtain ⟨X, h1, h2, h3, h4⟩ := put_ev n (by omega)
    refine ⟨strOfNums [2 % 256] ++ X.extract 4 X.size, ?_, ?_⟩
    · rw [e]
      exact Evr.bind h1 (Evr.pos (by omega) (Evr.pos (by rw [s1]; omega) (Evr.const rfl)))
    · rw [ByteArray.data_append, Array.toList_append, h3, hn]
      rfl
  · simp only [a, k30, k31, k32, Option.bind_some, if_true, if_false]
    obtain ⟨i1, i2⟩ := i
    obtain ⟨n, hn⟩ := Int.eq_ofNat_of_zero_le (show 0 ≤ v.f1 + 9223372036854775808 by omega)
    have e : instarref01_Flip.f v.f1 = some (n : Int) := by
      unfold instarref01_Flip.f
      by_cases c : v.f1 ≥ 0
      · rw [if_pos c, IntKind.wrap_u64, IntKind.wrap_u64]; congr 1; omega
      · rw [if_neg c, wrap_eq (by omega) (by omega), IntKind.wrap_u64]; congr 1; omega
    obtain ⟨X, h1, h2, h3, h4⟩ := put_ev n (by omega)
    refine ⟨strOfNums [3 % 256] ++ X, ?_, ?_⟩
    · exact Evr.bindc e (Evr.bind h1 (Evr.pos (by rw [s1]; omega) (Evr.const rfl)))
    · rw [ByteArray.data_append, Array.toList_append, h2, hn]
      rfl
  · simp only [a, b, k40, k41, k42, k43, Option.bind_some, if_true, if_false]
    obtain ⟨X, h1, h2⟩ := esc_l 4 0 v.f2 c v.f2.size 0 (strOfNums [4 % 256]) rfl (by rw [s1]; omega)
    refine ⟨X, h1, ?_⟩
    rw [h2, List.drop_zero, ByteArray.toList_eq, s1d]
    rfl
theorem enc_r (l : List S35) (hl : l.length ≤ 30) (h : ∀ v ∈ l, okV v = true ∧ I64 v.f1) : ∀ n i (acc : ByteArray), n = l.length - i → i ≤ l.length → acc.size ≤ 500 * i →
    ∃ X, Evr (fun k => instarref04_Encode.l0 k l acc (i : Int)) (X, 0) ∧ X.data.toList = acc.data.toList ++ E (l.drop i)
  | n, i, acc, hn, hi, ha => by
    by_cases c : i < l.length
    · obtain ⟨h1, h2⟩ := h l[i] (List.getElem_mem _)
      have hr : RightV l[i] := right_v ((okV_eq _).trans (by rw [h1]))
      obtain ⟨Y, e1, e2⟩ := one_r hr h2
      have hy : Y.size ≤ 500 := by
        have := encB_len hr
        rw [← e2, dl] at this
        exact this
      obtain ⟨X, g1, g2⟩ := enc_r l hl h (l.length - (i + 1)) (i + 1) (acc ++ Y) rfl c (by rw [ByteArray.size_append]; omega)
      refine ⟨X, Evr.succ ?_, ?_⟩
      · simp only [instarref04_Encode.l0]
        rw [rd_get c]
        refine Evr.pos (by omega) (Evr.pos (by omega) (Evr.bind (okV_ref _) (Evr.pos h1 (Evr.bind e1 (Evr.pos (by omega) ?_)))))
        rw [wrap_nat (by omega)]
        exact g1
      · rw [g2, List.drop_eq_getElem_cons c, E_cons, ByteArray.data_append, Array.toList_append, e2, List.append_assoc]
    · refine ⟨acc, Evr.succ ?_, ?_⟩
      · simp only [instarref04_Encode.l0]
        exact Evr.neg (by omega) (Evr.const rfl)
      · rw [List.drop_eq_nil_of_le (by omega)]
        rw [show Kk.E [] = [] from rfl, List.append_nil]
  termination_by n => n
theorem key_r (l : List S35) (hl : l.length ≤ 30) (h : ∀ v ∈ l, I64 v.f1) : ∃ X, Evr (fun k => instarref05_Key.f k l) X ∧ X.data.toList = if okR l = true then E l else [] := by
  unfold instarref05_Key.f
  by_cases c : okR l = true
  · rw [if_pos c]
    have hc := c
    unfold okR at hc
    rw [Bool.and_eq_true, List.all_eq_true] at hc
    obtain ⟨X, h1, h2⟩ := enc_r l hl (fun v hv => ⟨hc.2 v hv, h v hv⟩) _ 0 (⟨#[]⟩ : ByteArray) rfl (Nat.zero_le _) (Nat.zero_le _)
    refine ⟨X, Evr.bind (rref_ev l (by omega)) (Evr.pos c (Evr.bind (v := (X, 0)) ?_ (Evr.const rfl))), by rw [h2]; rfl⟩
    unfold instarref04_Encode.f
    exact h1
  · rw [if_neg c]
    exact ⟨⟨#[]⟩, Evr.bind (rref_ev l (by omega)) (Evr.neg c (Evr.const rfl)), rfl⟩
theorem key_p (l : List S35) (hl : l.length ≤ 30) (h : ∀ v ∈ l, I64 v.f1) : ∃ X, Evr (fun k => row_Key.f k l) X ∧ X.data.toList = if okR l = true then E l else [] := by
  unfold row_Key.f
  by_cases c : okR l = true
  · rw [if_pos c]
    have hc := c
    unfold okR at hc
    rw [Bool.and_eq_true, List.all_eq_true] at hc
    obtain ⟨X, h1, h2⟩ := enc_l l ⟨#[]⟩ (fun v hv => ⟨(okV_eq v).trans (by rw [hc.2 v hv]), h v hv⟩) (by have : (⟨#[]⟩ : ByteArray).size = 0 := rfl; omega)
    exact ⟨X, Evr.bind (right_ev l (by omega)) (Evr.pos c (Evr.bindc (v := (X, 0)) h1 (Evr.const rfl))), by rw [h2]; rfl⟩
  · rw [if_neg c]
    exact ⟨⟨#[]⟩, Evr.bind (right_ev l (by omega)) (Evr.neg c (Evr.const rfl)), rfl⟩
end Go.Proofs.YtinjibbjlcfkaaaDoor.Tk
end
section
namespace Go.Proofs.YtinjibbjlcfkaaaDoor.LRowTells
open Go Go.RowKit Go.Proofs.YtinjibbjlcfkaaaDoorW.PrintWords Go.Proofs.YtinjibbjlcfkaaaDoor.PE Go.Proofs.YtinjibbjlcfkaaaDoor.Op Go.Proofs.YtinjibbjlcfkaaaDoor.Rk Go.Proofs.YtinjibbjlcfkaaaDoor.Ro Go.Proofs.YtinjibbjlcfkaaaDoor.Tr Go.Proofs.YtinjibbjlcfkaaaDoor.Ts Go.Proofs.YtinjibbjlcfkaaaDoor.Tk
set_option linter.unusedVariables false
set_option linter.unusedSimpArgs false
theorem tl {x y : ByteArray} {l : List UInt8} (h : x.data.toList = l) (h' : y.data.toList = l) : x.toList = y.toList := by
  rw [ByteArray.toList_eq, ByteArray.toList_eq, h, h']
theorem pure : QRowTells.Pure := by
  intro a b m ha hb hm
  refine Evr.ex ?_
  have la : a.length < 9223372036854775807 := by have := ha.1; omega
  obtain ⟨s1, h1, g1⟩ := small_ev (l := a) (fun y hy => (ha.2 y hy).2.2)
  obtain ⟨s2, h2, g2⟩ := small_ev (l := b) (fun y hy => (hb.2 y hy).2.2)
  have out : Evr (fun k => instarlaw05_RowTells.j0 k a b m true) true := by
    refine Evr.succ ?_
    simp only [instarlaw05_RowTells.j0]
    exact Evr.pos (by simp) (Evr.bind alive_ev (Evr.const rfl))
  unfold instarlaw05_RowTells.f
  refine Evr.bind h1 (Evr.bind h2 ?_)
  cases s1 with
  | false => exact Evr.neg (by simp) out
  | true =>
  refine Evr.pos (by simp) ?_
  cases s2 with
  | false => exact Evr.neg (by simp) out
  | true =>
  refine Evr.pos (by simp) ?_
  obtain ⟨a1, a2⟩ := g1 rfl
  have i64 : ∀ v ∈ a, I64 v.f1 := fun v hv => inKind_i64 (ha.2 v hv).2.1
  cases hc : decide ((m.length : Int) > 30) with
  | true => exact out
  | false =>
  obtain ⟨X1, x1, x2⟩ := show_ev a a1 i64
  obtain ⟨Y1, y1, y2⟩ := rshow_ev a a1 i64
  obtain ⟨X2, x3, x4⟩ := key_p a a1 i64
  obtain ⟨Y2, y3, y4⟩ := key_r a a1 i64
  refine Evr.succ ?_
  simp only [instarlaw05_RowTells.j0]
  refine Evr.neg (by simp) (Evr.bind alive_ev (Evr.pos rfl (Evr.bind (right_ev a la) (Evr.bind (rref_ev a la) (Evr.pos (by simp) (Evr.bind x1 (Evr.bind y1 (Evr.pos (tl x2 y2) (Evr.bind x3 (Evr.bind y3 (Evr.pos (tl x4 y4) (Evr.bind (fits_ev a m la) (Evr.bind (fits_rev a m la) (Evr.pos (by simp) (Evr.bind (comp_ev a b la) (Evr.bind (rcomp_ev a b la) (Evr.pos rfl (Evr.bind (same_ev a b la) (Evr.bind (rsame_ev a b la) (Evr.const (by simp)))))))))))))))))))))
end Go.Proofs.YtinjibbjlcfkaaaDoor.LRowTells
end
section
namespace Go.Proofs.YtinjibbjlcfkaaaDoor.Gs
open Go Go.RowKit
set_option linter.unusedVariables false
theorem tab_reads {P : Program} {W : World} {name : String} {k : IntKind} {zs : List Int} {g : Nat} {t e : TypeId} {n : Nat}
    (hg : P.globalNamed name = some g) (hty : (P.globals[g]?).map (·.type) = some t) (ht : P.underlying t = some (.array n e)) (he : P.underlying e = some (.int k)) (hce : P.cellsOf e = 1) (hct : P.cellsOf t = n)
    (h : Lib.VarReads P W name (Lib.tabData k zs)) : Lib.TabIs P W name k zs := by
  obtain ⟨g', t', cs, fuel, p, hg', ht', hvar, hd⟩ := h
  obtain rfl := Option.some.inj (hg.symm.trans hg')
  obtain rfl := Option.some.inj (hty.symm.trans ht')
  unfold Lib.TabIs
  rw [hvar, ← Lib.cells_of_tab ht he hce hct hd]
theorem pow10_eq : (Rows.laid_internal_strconv_uint64pow10 : DataW Unit) = Lib.tabData .u64 Lib.pow10Tab := by kernel_rfl
theorem start {laid : List (String × DataW Unit)} (W : World) (hsh : W.ShapedOpen Tryd.prog) (hL : laidMet Tryd.prog laid W)
    (h1 : ("internal/strconv.uint64pow10", (Rows.laid_internal_strconv_uint64pow10 : DataW Unit)) ∈ laid)
    : Bs.Gl W :=
  { triv := trivial
    maxLen := Go.Proofs.cell_of_shapedOpen_int (zero := #[.int .i64 0]) (t := 3) hsh (of_decide_eq_true (by kernel_rfl)) (by kernel_rfl) rfl (by kernel_rfl) (by kernel_rfl) Tryd.underlying3
    pow10 := tab_reads (g := 0) (t := 108) (e := 87) (n := 20) (by kernel_rfl) (by kernel_rfl) Tryd.underlying108 Tryd.underlying87 (by kernel_rfl) (by kernel_rfl) (pow10_eq ▸ Lib.laidMet.reads hL h1)
  }
end Go.Proofs.YtinjibbjlcfkaaaDoor.Gs
end
section
namespace Go.Proofs.YtinjibbjlcfkaaaDoor.RowRowTells
open Go Go.ChangeShapes Go.WideShapes Go.ChangeAt Go.RowKit Go.Proofs.YtinjibbjlcfkaaaDoor.Op Go.Proofs.YtinjibbjlcfkaaaDoor.QRowTells Go.Proofs.YtinjibbjlcfkaaaDoor.PE
open Go.ChangeMaps (open_string shut_string)
set_option linter.unusedVariables false
set_option linter.unusedSimpArgs false
theorem own : ownKnob Tryd.prog.godebug = none := by kernel_rfl
theorem laidOut : laidOutB Tryd.prog = true := by kernel_rfl
def laid : List (String × DataW Unit) := [("math/bits.deBruijn32tab", Rows.laid_math_bits_deBruijn32tab), ("math/bits.deBruijn64tab", Rows.laid_math_bits_deBruijn64tab), ("internal/strconv.uint64pow10", Rows.laid_internal_strconv_uint64pow10), ("unicode/utf8.acceptRanges", Rows.laid_unicode_utf8_acceptRanges), ("unicode/utf8.first", Rows.laid_unicode_utf8_first)]
set_option maxRecDepth 100000 in
theorem lifted (os : Os) (started : os.Started) (H : Type) (enc : TypeId × Value → H) (F : Stop.Interp) :
    ReturnsInHanded {} Tryd.checked os 4 .any ((OpenSpec.ofChange Rows.rowTellsSpec).preRow enc Tryd.prog Tryd.f4 [] false laid) (((OpenSpec.ofChange Rows.rowTellsSpec).at F).post enc Tryd.prog Tryd.f4 false true false false) := by
  refine returnsInHanded_of_row (C := Tryd.checked) (s := (OpenSpec.ofChange Rows.rowTellsSpec)) own started (by kernel_rfl) Tryd.func4
    (ChangeSpec.witness_shaped (enc := enc) (C := Tryd.checked) (os := os) (s := Rows.rowTellsSpec) (fn := Tryd.f4) (conds := []) (apart := false) (X := fun w _ => laidMetH Tryd.prog laid w) false (World.laidAll Tryd.prog os laid) #[.slice none 0 0, .slice none 0 0, .slice none 0 0] 8 (World.laidAll_os _ _ _)
      (World.shaped_of_ZipB (by kernel_rfl) (by kernel_rfl)) (by kernel_rfl) (by kernel_rfl) (by kernel_rfl)
      (by rw [MakeChecks.laidMetH_plain _ _ _ (by kernel_rfl)]; exact laidMet_laidAll _ (by kernel_rfl) (by kernel_rfl))) ?_
  intro W base args ds gs before hval0 hW _ _ hsz0 hL hsh _
  have hsz : (DataW.weightsEach Tryd.prog (Tryd.f4.params.toList ++ Rows.rowTellsSpec.plain.varTypes Tryd.prog) (ds ++ gs)).all (· ≤ reachBytes) = true := hsz0
  have hval : ∀ (j : Nat) t v, Tryd.f4.params[j]? = some t → args[j]? = some v → Value.okWide Tryd.prog W .any base t v := hval0
  have hW' := hW
  obtain ⟨p, q, hA0, hV, rfl, hfz, hnd⟩ := hW
  have hA : DataW.TrodAll enc Tryd.prog W 0 (fun _ => true) true Tryd.f4.params.toList args.toList ds p := hA0
  rw [Tryd.params4] at hA hval hsz
  obtain ⟨v0, vs0, d0, ds0, p0, q0, hargs, rfl, rfl, h0, r0⟩ := trodAll_cons hA
  obtain ⟨v1, vs1, d1, ds1, p1, q1, rfl, rfl, rfl, h1, r1⟩ := trodAll_cons r0
  obtain ⟨v2, vs2, d2, ds2, p2, q2, rfl, rfl, rfl, h2, r2⟩ := trodAll_cons r1
  obtain ⟨rfl, rfl, rfl⟩ := trodAll_nil r2
  obtain rfl : args = #[v0, v1, v2] := by cases args; simp_all
  obtain ⟨rfl, rfl⟩ := trodVars_none hV
  rw [MakeChecks.laidMetH_plain _ _ _ (by kernel_rfl)] at hL
  have hG : Go.Proofs.YtinjibbjlcfkaaaDoor.Bs.Gl W := Go.Proofs.YtinjibbjlcfkaaaDoor.Gs.start W hsh hL (by simp [laid])
  have k0 := h0
  have lt0 : ∀ x ∈ p0, x.block < W.heap.size := by obtain ⟨m, hm⟩ := k0; exact DataW.trod_lt m _ _ _ hm
  have w0 := hw_of hsz (j := 0) (t := 27) rfl rfl
  obtain ⟨a0, n0, c0, rfl⟩ := okWide_slice Tryd.underlying27 (hval 0 27 v0 rfl rfl)
  obtain ⟨y0, ⟨A0, b0, e0, hc0, hr0⟩, B0⟩ := arg_one (Opens.slice z35 Tryd.underlying27 (by kernel_rfl) (by kernel_rfl) op35) rfl h0 w0
  simp only [List.cons.injEq, Value.slice.injEq, and_true] at e0
  obtain ⟨rfl, rfl, rfl⟩ := e0
  have k1 := h1
  have lt1 : ∀ x ∈ p1, x.block < W.heap.size := by obtain ⟨m, hm⟩ := k1; exact DataW.trod_lt m _ _ _ hm
  have w1 := hw_of hsz (j := 1) (t := 27) rfl rfl
  obtain ⟨a1, n1, c1, rfl⟩ := okWide_slice Tryd.underlying27 (hval 1 27 v1 rfl rfl)
  obtain ⟨y1, ⟨A1, b1, e1, hc1, hr1⟩, B1⟩ := arg_one (Opens.slice z35 Tryd.underlying27 (by kernel_rfl) (by kernel_rfl) op35) rfl h1 w1
  simp only [List.cons.injEq, Value.slice.injEq, and_true] at e1
  obtain ⟨rfl, rfl, rfl⟩ := e1
  have k2 := h2
  have lt2 : ∀ x ∈ p2, x.block < W.heap.size := by obtain ⟨m, hm⟩ := k2; exact DataW.trod_lt m _ _ _ hm
  have w2 := hw_of hsz (j := 2) (t := 39) rfl rfl
  obtain ⟨a2, n2, c2, rfl⟩ := okWide_slice Tryd.underlying39 (hval 2 39 v2 rfl rfl)
  obtain ⟨y2, ⟨A2, b2, e2, hc2, hr2⟩, B2⟩ := arg_one (Opens.slice 0 Tryd.underlying39 (by kernel_rfl) (by kernel_rfl) (Opens.int .i64 Tryd.underlying33 (by kernel_rfl))) rfl h2 w2
  simp only [List.cons.injEq, Value.slice.injEq, and_true] at e2
  obtain ⟨rfl, rfl, rfl⟩ := e2
  obtain ⟨k, hp⟩ := Go.Proofs.YtinjibbjlcfkaaaDoor.LRowTells.pure y0 y1 y2 B0 B1 B2
  refine (instarlaw05_RowTells.calls k a0 c0 y0 a1 c1 y1 a2 c2 y2 true W hr0 hc0 hr1 hc1 hr2 hc2 hG ⟨rfl⟩ hp).mono fun e W' ⟨he, bel⟩ => ?_
  subst he
  exact ⟨_, rfl, _, _, _, [], _, [], hW', trodAll_mk1 (shut_bool Tryd.underlying4 _), (trodAll_cons_mk (Below.trod laidOut (by kernel_rfl) (of_decide_eq_true (by kernel_rfl)) k0 bel lt0) (trodAll_cons_mk (Below.trod laidOut (by kernel_rfl) (of_decide_eq_true (by kernel_rfl)) k1 bel lt1) (trodAll_cons_mk (Below.trod laidOut (by kernel_rfl) (of_decide_eq_true (by kernel_rfl)) k2 bel lt2) trodAll_mk0))), rfl, bel.frame _, fun h => by cases h⟩
theorem over : Rows.rowTellsRow.holds Tryd.pinned (OpenSpec.ofChange Rows.rowTellsSpec) :=
  OpenClaim.holds_of_cond 4 Tryd.f4 rfl rfl rfl rfl rfl rfl rfl ⟨rfl, rfl, rfl, rfl, rfl⟩ rfl rfl rfl rfl rfl (by kernel_rfl) Tryd.func4 (by kernel_rfl)
    (of_decide_eq_true (by kernel_rfl)) (by unfold Func.isWrapper; first | (rw [if_pos (by decide +kernel)]; kernel_rfl) | (rw [if_neg (by decide +kernel)]; exact ⟨rfl, rfl⟩))
    (fun os started H enc _ F => by rw [OpenClaim.pre_eq_preRow]; exact lifted os started H enc F)
theorem card : Rows.RowTellsCardSaid :=
  Claim7.holds_tied_plain_at .later [] [.data, .data, .data, .data, .pinned] true (true, "09910d64a10f5f97f6e1dc72fd2bc0cb66555bc8c357305459103e2d0aa51afa") false over (fun _ h => by cases h) (by kernel_rfl) (fun _ h => by cases h) rowTells_row_tie rfl ⟨rfl, rfl⟩ (by kernel_rfl) rfl
    (fun f fn hf hfn => by
      obtain rfl : f = 4 := Option.some.inj ((show Tryd.prog.funcNamed "instar/instarlaw05.RowTells" = some 4 by kernel_rfl).symm.trans hf) |>.symm
      obtain rfl : fn = Tryd.f4 := (Option.some.inj (Tryd.func4.symm.trans hfn)).symm
      exact ⟨by kernel_rfl, fun j t ht => by
        rw [Tryd.params4] at ht
        have hm : t ∈ [27, 27, 39] := by simpa using Array.mem_of_getElem? ht
        have hall : ([27, 27, 39].all fun u => !Tryd.prog.wantsStandIn u) = true := by kernel_rfl
        exact (show Tryd.prog.wantsStandIn t = false by simpa using List.all_eq_true.1 hall t hm)⟩)
    (by kernel_rfl)
end Go.Proofs.YtinjibbjlcfkaaaDoor.RowRowTells
namespace Go.Proofs.YtinjibbjlcfkaaaDoor
theorem rowTells_holds : Rows.RowTellsCardSaid := RowRowTells.card
#print axioms rowTells_holds
end Go.Proofs.YtinjibbjlcfkaaaDoor
end
