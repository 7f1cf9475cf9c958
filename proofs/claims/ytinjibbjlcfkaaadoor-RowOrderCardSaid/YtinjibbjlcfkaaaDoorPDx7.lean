-- printed by drv.py (this session) by way of the kit's print.py, and given texts
import Derived.Test.YtinjibbjlcfkaaaDoorPDx0
import Derived.Test.YtinjibbjlcfkaaaDoorPDx2
import Derived.Test.YtinjibbjlcfkaaaDoorPDx4
import Derived.Test.YtinjibbjlcfkaaaDoorPDx6
namespace Go.Proofs.YtinjibbjlcfkaaaDoor.PD
open Go.RowKit Go.Proofs.YtinjibbjlcfkaaaDoorW.PrintWords Go.Proofs.YtinjibbjlcfkaaaDoorW.PrintLast Go.Proofs.YtinjibbjlcfkaaaDoorW.PrintMore
attribute [local go_sem] max2_int min2_int max_two min_two max_three min_three max_four min_four   -- for this text's walks alone
attribute [local go_sem high] Go.Proofs.YtinjibbjlcfkaaaDoor.Bs.gtr_bl Go.Proofs.YtinjibbjlcfkaaaDoor.Bs.leq_bl
set_option linter.unusedVariables false
set_option linter.unusedSimpArgs false

/-! ### instarlaw05_RowOrder: function 5 -/
def instarlaw05_RowOrder.j0 : Nat → List (S35) → List (S35) → Bool → Option (Bool)
  | 0, _, _, _ => none
  | k + 1, x0, x1, x29 => if x29 = true then ((instarlaw05_alive.f k).bind fun t105 => (some t105)) else ((row_Compare.f k x0 x1).bind fun t106 => ((row_Key.f k x0).bind fun t107 => ((row_Key.f k x1).bind fun t108 => ((instarlaw05_alive.f k).bind fun t109 => (if t109 = true then (if ((Op.bytesLess t107.toList t108.toList) == (decide (t106 < 0))) = true then (if ((t107.toList == t108.toList) == (t106 == 0)) = true then ((row_Compare.f k x1 x0).bind fun t110 => (if t110 = (wrap64 (-t106)) then ((row_Same.f k x0 x1).bind fun t111 => (if (t111 == (t106 == 0)) = true then ((row_Same.f k x0 x0).bind fun t112 => (some t112)) else (some false))) else (some false))) else (some false)) else (some false)) else (some false))))))
def instarlaw05_RowOrder.f (k : Nat) (l0 : List (S35)) (l1 : List (S35)) : Option (Bool) := (instarlaw05_Small.f k l0).bind fun t101 => ((instarlaw05_Small.f k l1).bind fun t102 => (if t101 = true then (if t102 = true then ((row_Right.f k l0).bind fun t103 => (if t103 = true then ((row_Right.f k l1).bind fun t104 => (instarlaw05_RowOrder.j0 k l0 l1 (!t104))) else (instarlaw05_RowOrder.j0 k l0 l1 true))) else (instarlaw05_RowOrder.j0 k l0 l1 true)) else (instarlaw05_RowOrder.j0 k l0 l1 true)))
theorem instarlaw05_RowOrder.mono_l : ∀ k, (∀ y0 y1 y2, LeO (instarlaw05_RowOrder.j0 k y0 y1 y2) (instarlaw05_RowOrder.j0 (k + 1) y0 y1 y2))
  | 0 => fun _ _ _ r h => by simp [instarlaw05_RowOrder.j0] at h
  | k + 1 => by
    have ih0 := instarlaw05_RowOrder.mono_l k
    · intro y0 y1 y2
      unfold instarlaw05_RowOrder.j0
      repeat' first
      | (with_reducible exact ih0 _ _ _)
      | (with_reducible exact instarlaw05_Small.mono _ _)
      | (with_reducible exact instarlaw05_alive.mono _)
      | (with_reducible exact row_Compare.mono _ _ _)
      | (with_reducible exact row_Key.mono _ _)
      | (with_reducible exact row_Right.mono _ _)
      | (with_reducible exact row_Same.mono _ _ _)
      | (with_reducible exact LeO.refl _)
      | (with_reducible exact LeO.none _)
      | (with_reducible refine LeO.ite ?_ ?_)
      | (with_reducible refine LeO.bind ?_ (fun _ => ?_))
      | exact ih0 _ _ _
      | exact instarlaw05_Small.mono _ _
      | exact instarlaw05_alive.mono _
      | exact row_Compare.mono _ _ _
      | exact row_Key.mono _ _
      | exact row_Right.mono _ _
      | exact row_Same.mono _ _ _
      | exact LeO.none _
      | refine LeO.ite ?_ ?_
      | refine LeO.bind ?_ (fun _ => ?_)
theorem instarlaw05_RowOrder.mono : ∀ a0 a1 k, LeO (instarlaw05_RowOrder.f k a0 a1) (instarlaw05_RowOrder.f (k + 1) a0 a1) := by
  intro a0 a1 k
  have ih0 := instarlaw05_RowOrder.mono_l k
  unfold instarlaw05_RowOrder.f
  repeat' first
      | (with_reducible exact ih0 _ _ _)
      | (with_reducible exact instarlaw05_Small.mono _ _)
      | (with_reducible exact instarlaw05_alive.mono _)
      | (with_reducible exact row_Compare.mono _ _ _)
      | (with_reducible exact row_Key.mono _ _)
      | (with_reducible exact row_Right.mono _ _)
      | (with_reducible exact row_Same.mono _ _ _)
      | (with_reducible exact LeO.refl _)
      | (with_reducible exact LeO.none _)
      | (with_reducible refine LeO.ite ?_ ?_)
      | (with_reducible refine LeO.bind ?_ (fun _ => ?_))
      | exact ih0 _ _ _
      | exact instarlaw05_Small.mono _ _
      | exact instarlaw05_alive.mono _
      | exact row_Compare.mono _ _ _
      | exact row_Key.mono _ _
      | exact row_Right.mono _ _
      | exact row_Same.mono _ _ _
      | exact LeO.none _
      | refine LeO.ite ?_ ?_
      | refine LeO.bind ?_ (fun _ => ?_)
set_option maxHeartbeats 8000000 in
set_option maxRecDepth 100000 in
theorem instarlaw05_RowOrder.calls (k : Nat) (A0 : Option Addr) (c0 : Nat) (l0 : List (S35)) (A1 : Option Addr) (c1 : Nat) (l1 : List (S35)) (r : Bool) (w : World) (hr0 : Kd.C k35 w A0 l0.length l0) (hc0 : l0.length ≤ c0) (hr1 : Kd.C k35 w A1 l1.length l1) (hc1 : l1.length ≤ c1) (hG : Go.Proofs.YtinjibbjlcfkaaaDoor.Bs.Gl w) (hr_ : Aside0 (r = true)) (h : instarlaw05_RowOrder.f k l0 l1 = some r) :
    Calls Tryd.prog 5 #[.slice A0 l0.length c0, .slice A1 l1.length c1] w fun e w' => e = .returned (.bool r) ∧ Below w.heap.size w w' := by
  have HR0 := Aside0.mk hr0
  have HC0 := Aside0.mk hc0
  clear hr0 hc0
  have HR1 := Aside0.mk hr1
  have HC1 := Aside0.mk hc1
  clear hr1 hc1
  have HB := Aside0.mk (Below.refl w.heap.size w)
  have H : ((instarlaw05_Small.f k l0).bind fun t101 => ((instarlaw05_Small.f k l1).bind fun t102 => (if t101 = true then (if t102 = true then ((row_Right.f k l0).bind fun t103 => (if t103 = true then ((row_Right.f k l1).bind fun t104 => (instarlaw05_RowOrder.j0 k l0 l1 (!t104))) else (instarlaw05_RowOrder.j0 k l0 l1 true))) else (instarlaw05_RowOrder.j0 k l0 l1 true)) else (instarlaw05_RowOrder.j0 k l0 l1 true)))) = some r := h
  clear h
  replace H := Option.bind_eq_some_iff.mp H
  obtain ⟨t101, A30, H⟩ := H
  replace H : ((instarlaw05_Small.f k l1).bind fun t102 => (if t101 = true then (if t102 = true then ((row_Right.f k l0).bind fun t103 => (if t103 = true then ((row_Right.f k l1).bind fun t104 => (instarlaw05_RowOrder.j0 k l0 l1 (!t104))) else (instarlaw05_RowOrder.j0 k l0 l1 true))) else (instarlaw05_RowOrder.j0 k l0 l1 true)) else (instarlaw05_RowOrder.j0 k l0 l1 true))) = some r := H
  have A3 := Aside0.mk A30
  clear A30
  replace H := Option.bind_eq_some_iff.mp H
  obtain ⟨t102, A40, H⟩ := H
  replace H : (if t101 = true then (if t102 = true then ((row_Right.f k l0).bind fun t103 => (if t103 = true then ((row_Right.f k l1).bind fun t104 => (instarlaw05_RowOrder.j0 k l0 l1 (!t104))) else (instarlaw05_RowOrder.j0 k l0 l1 true))) else (instarlaw05_RowOrder.j0 k l0 l1 true)) else (instarlaw05_RowOrder.j0 k l0 l1 true)) = some r := H
  have A4 := Aside0.mk A40
  clear A40
  have HC5 := Aside0.mk H
  clear H
  go_enter Tryd.func5, Tryd.ntmps5
  go_upto_region 3 with (first | ((with_reducible refine gate_callee (f := 8) rfl ?_); refine goesL_ (some 11) rfl rfl Tryd.func8 (by kernel_rfl) rfl #[.slice A0 l0.length c0] rfl (by (try simp only [List.map_toArray, List.map_cons, List.map_nil]); first | done | rfl | (simp only [List.length_drop, List.length_take]; rfl)) ?_; (with_reducible refine (instarlaw05_Small.calls k _ _ l0 t101 _ ?side1 ?side2 A3.out).mono ?_); (case side1 => repeat (first | exact HR0.out | (with_reducible refine Kd.C_alloc ?_ _) | (with_reducible refine Kd.C_drewN ?_ _) | (with_reducible refine Kd.C_drew ?_))); (case side2 => exact HC0.out); rintro e w' ⟨rfl, ⟨nd, rfl⟩⟩; refine ⟨_, rfl, ?_⟩) | ((with_reducible refine gate_callee (f := 8) rfl ?_); refine goesL_ (some 13) rfl rfl Tryd.func8 (by kernel_rfl) rfl #[.slice A1 l1.length c1] rfl (by (try simp only [List.map_toArray, List.map_cons, List.map_nil]); first | done | rfl | (simp only [List.length_drop, List.length_take]; rfl)) ?_; (with_reducible refine (instarlaw05_Small.calls k _ _ l1 t102 _ ?side1 ?side2 A4.out).mono ?_); (case side1 => repeat (first | exact HR1.out | (with_reducible refine Kd.C_alloc ?_ _) | (with_reducible refine Kd.C_drewN ?_ _) | (with_reducible refine Kd.C_drew ?_))); (case side2 => exact HC1.out); rintro e w' ⟨rfl, ⟨nd, rfl⟩⟩; refine ⟨_, rfl, ?_⟩))
  (try simp only [Act.put, List.setIfInBounds_toArray, List.set_cons_zero, List.set_cons_succ])
  go_cut [29] (fun v29 wc => ∃ (kq : Nat) (x29_4 : Bool), v29 = .bool x29_4 ∧ Aside0 (instarlaw05_RowOrder.j0 kq l0 l1 x29_4 = some r) ∧ Aside0 (kq ≤ k) ∧ Aside0 (Below w.heap.size w wc))
  case first =>
    have H := HC5.out
    clear HC5
    by_cases c6 : t101 = true
    · subst c6
      have H1 : (if t102 = true then ((row_Right.f k l0).bind fun t103 => (if t103 = true then ((row_Right.f k l1).bind fun t104 => (instarlaw05_RowOrder.j0 k l0 l1 (!t104))) else (instarlaw05_RowOrder.j0 k l0 l1 true))) else (instarlaw05_RowOrder.j0 k l0 l1 true)) = some r := by rw [if_pos rfl] at H; exact H
      clear H
      have H := H1
      clear H1
      by_cases c7 : t102 = true
      · subst c7
        have H1 : ((row_Right.f k l0).bind fun t103 => (if t103 = true then ((row_Right.f k l1).bind fun t104 => (instarlaw05_RowOrder.j0 k l0 l1 (!t104))) else (instarlaw05_RowOrder.j0 k l0 l1 true))) = some r := by rw [if_pos rfl] at H; exact H
        clear H
        have H := H1
        clear H1
        replace H := Option.bind_eq_some_iff.mp H
        obtain ⟨t103, A80, H⟩ := H
        replace H : (if t103 = true then ((row_Right.f k l1).bind fun t104 => (instarlaw05_RowOrder.j0 k l0 l1 (!t104))) else (instarlaw05_RowOrder.j0 k l0 l1 true)) = some r := H
        have A8 := Aside0.mk A80
        clear A80
        by_cases c9 : t103 = true
        · subst c9
          have H1 : ((row_Right.f k l1).bind fun t104 => (instarlaw05_RowOrder.j0 k l0 l1 (!t104))) = some r := by rw [if_pos rfl] at H; exact H
          clear H
          have H := H1
          clear H1
          replace H := Option.bind_eq_some_iff.mp H
          obtain ⟨t104, A100, H⟩ := H
          replace H : (instarlaw05_RowOrder.j0 k l0 l1 (!t104)) = some r := H
          have A10 := Aside0.mk A100
          clear A100
          have H' := Aside0.mk H
          clear H
          go_wp2_with (first | (go_at_call 14; (with_reducible refine (row_Right.calls k _ _ l0 true _ ?side1 ?side2 A8.out).mono ?_); (case side1 => repeat (first | exact (Kd.C_below HR0.out HB.out) | (with_reducible refine Kd.C_alloc ?_ _) | (with_reducible refine Kd.C_drewN ?_ _) | (with_reducible refine Kd.C_drew ?_))); (case side2 => exact HC0.out); rintro e w11 ⟨rfl, hb⟩; have n0_ := Aside0.mk (below_step (by repeat (first | (with_reducible first | exact HB.out | apply below_alloc | apply pw_below_drewN | apply below_drew1) | exact HB.out)) hb); clear HB; have HB := n0_; clear n0_; (try clear hb); (try clear hb2); (try clear hk); (try clear hi)) | (go_at_call 14; (with_reducible refine (row_Right.calls k _ _ l1 t104 _ ?side1 ?side2 A10.out).mono ?_); (case side1 => repeat (first | exact (Kd.C_below HR1.out HB.out) | (with_reducible refine Kd.C_alloc ?_ _) | (with_reducible refine Kd.C_drewN ?_ _) | (with_reducible refine Kd.C_drew ?_))); (case side2 => exact HC1.out); rintro e w12 ⟨rfl, hb⟩; have n0_ := Aside0.mk (below_step (by repeat (first | (with_reducible first | exact HB.out | apply below_alloc | apply pw_below_drewN | apply below_drew1) | exact HB.out)) hb); clear HB; have HB := n0_; clear n0_; (try clear hb); (try clear hb2); (try clear hk); (try clear hi)))
          go_meet
          case rel => exact ⟨_, (!t104), (by first | rfl | (simp; done) | (simp [*]; done) | (simp [Go.Proofs.YtinjibbjlcfkaaaDoor.Bs.isEmpty_bne, Go.Proofs.YtinjibbjlcfkaaaDoor.Bs.isEmpty_beq]; done)), H', ⟨by first | omega | exact Nat.le_refl _⟩, ⟨by repeat (first | (with_reducible first | exact HB.out | apply below_alloc | apply pw_below_drewN | apply below_drew1) | exact HB.out)⟩⟩
        · replace c9 := Bool.eq_false_iff.mpr c9
          subst c9
          have H1 : (instarlaw05_RowOrder.j0 k l0 l1 true) = some r := by rw [if_neg (show ¬ (false = true) by decide)] at H; exact H
          clear H
          have H := H1
          clear H1
          have H' := Aside0.mk H
          clear H
          go_wp2_with (first | (go_at_call 14; (with_reducible refine (row_Right.calls k _ _ l0 false _ ?side1 ?side2 A8.out).mono ?_); (case side1 => repeat (first | exact (Kd.C_below HR0.out HB.out) | (with_reducible refine Kd.C_alloc ?_ _) | (with_reducible refine Kd.C_drewN ?_ _) | (with_reducible refine Kd.C_drew ?_))); (case side2 => exact HC0.out); rintro e w13 ⟨rfl, hb⟩; have n0_ := Aside0.mk (below_step (by repeat (first | (with_reducible first | exact HB.out | apply below_alloc | apply pw_below_drewN | apply below_drew1) | exact HB.out)) hb); clear HB; have HB := n0_; clear n0_; (try clear hb); (try clear hb2); (try clear hk); (try clear hi)))
          go_meet
          case rel => exact ⟨_, (true), (by first | rfl | (simp; done) | (simp [*]; done) | (simp [Go.Proofs.YtinjibbjlcfkaaaDoor.Bs.isEmpty_bne, Go.Proofs.YtinjibbjlcfkaaaDoor.Bs.isEmpty_beq]; done)), H', ⟨by first | omega | exact Nat.le_refl _⟩, ⟨by repeat (first | (with_reducible first | exact HB.out | apply below_alloc | apply pw_below_drewN | apply below_drew1) | exact HB.out)⟩⟩
      · replace c7 := Bool.eq_false_iff.mpr c7
        subst c7
        have H1 : (instarlaw05_RowOrder.j0 k l0 l1 true) = some r := by rw [if_neg (show ¬ (false = true) by decide)] at H; exact H
        clear H
        have H := H1
        clear H1
        have H' := Aside0.mk H
        clear H
        go_wp2
        go_meet
        case rel => exact ⟨_, (true), (by first | rfl | (simp; done) | (simp [*]; done) | (simp [Go.Proofs.YtinjibbjlcfkaaaDoor.Bs.isEmpty_bne, Go.Proofs.YtinjibbjlcfkaaaDoor.Bs.isEmpty_beq]; done)), H', ⟨by first | omega | exact Nat.le_refl _⟩, ⟨by repeat (first | (with_reducible first | exact HB.out | apply below_alloc | apply pw_below_drewN | apply below_drew1) | exact HB.out)⟩⟩
    · replace c6 := Bool.eq_false_iff.mpr c6
      subst c6
      have H1 : (instarlaw05_RowOrder.j0 k l0 l1 true) = some r := by rw [if_neg (show ¬ (false = true) by decide)] at H; exact H
      clear H
      have H := H1
      clear H1
      have H' := Aside0.mk H
      clear H
      go_wp2
      go_meet
      case rel => exact ⟨_, (true), (by first | rfl | (simp; done) | (simp [*]; done) | (simp [Go.Proofs.YtinjibbjlcfkaaaDoor.Bs.isEmpty_bne, Go.Proofs.YtinjibbjlcfkaaaDoor.Bs.isEmpty_beq]; done)), H', ⟨by first | omega | exact Nat.le_refl _⟩, ⟨by repeat (first | (with_reducible first | exact HB.out | apply below_alloc | apply pw_below_drewN | apply below_drew1) | exact HB.out)⟩⟩
  case rest =>
    clear HC5
    try clear c1
    try clear p2
    try clear c5
    try clear c6
    try clear c7
    try clear c8
    try clear c9
    obtain ⟨kq, x29_4, rfl, HA, HJ4, HB⟩ := hcut
    cases kq with
    | zero => exact absurd HA.out (by simp [instarlaw05_RowOrder.j0])
    | succ kj4 =>
      have H := HA.out
      clear HA
      simp only [instarlaw05_RowOrder.j0] at H
      by_cases c14 : x29_4 = true
      · subst c14
        have H1 : ((instarlaw05_alive.f kj4).bind fun t105 => (some t105)) = some r := by rw [if_pos rfl] at H; exact H
        clear H
        have H := H1
        clear H1
        replace H := Option.bind_eq_some_iff.mp H
        obtain ⟨t105, A150, H⟩ := H
        replace H : (some t105) = some r := H
        have A15 := Aside0.mk A150
        clear A150
        obtain rfl := Option.some.inj H
        go_wp2_with (first | ((with_reducible refine gate_callee (f := 7) rfl ?_); refine goesL_ (some 30) rfl rfl Tryd.func7 (by kernel_rfl) rfl #[] rfl (by (try simp only [List.map_toArray, List.map_cons, List.map_nil]); first | done | rfl | (simp only [List.length_drop, List.length_take]; rfl)) ?_; (with_reducible refine (instarlaw05_alive.calls kj4  t105 _ ?side1 A15.out).mono ?_); (case side1 => first | exact hG | exact Go.Proofs.YtinjibbjlcfkaaaDoor.Bs.Gl.below hG (by repeat (first | (with_reducible first | exact HB.out | apply below_alloc | apply pw_below_drewN | apply below_drew1) | exact HB.out)) | (repeat (first | exact hG | refine Go.Proofs.YtinjibbjlcfkaaaDoor.Bs.Gl.drewN ?_ _))); rintro e w16 ⟨rfl, hb⟩; refine ⟨_, rfl, ?_⟩; have n0_ := Aside0.mk (below_step (by repeat (first | (with_reducible first | exact HB.out | apply below_alloc | apply pw_below_drewN | apply below_drew1) | exact HB.out)) hb); clear HB; have HB := n0_; clear n0_; (try clear hb); (try clear hb2); (try clear hk); (try clear hi)))
        go_ret
        exact ⟨by first | rfl | (simp [errW_none, errW_some] <;> rfl) | (simp [*, errW_none, errW_some] <;> rfl), by repeat (first | (with_reducible first | exact HB.out | apply below_alloc | apply pw_below_drewN | apply below_drew1) | exact HB.out)⟩
      · replace c14 := Bool.eq_false_iff.mpr c14
        subst c14
        have H1 : ((row_Compare.f kj4 l0 l1).bind fun t106 => ((row_Key.f kj4 l0).bind fun t107 => ((row_Key.f kj4 l1).bind fun t108 => ((instarlaw05_alive.f kj4).bind fun t109 => (if t109 = true then (if ((Op.bytesLess t107.toList t108.toList) == (decide (t106 < 0))) = true then (if ((t107.toList == t108.toList) == (t106 == 0)) = true then ((row_Compare.f kj4 l1 l0).bind fun t110 => (if t110 = (wrap64 (-t106)) then ((row_Same.f kj4 l0 l1).bind fun t111 => (if (t111 == (t106 == 0)) = true then ((row_Same.f kj4 l0 l0).bind fun t112 => (some t112)) else (some false))) else (some false))) else (some false)) else (some false)) else (some false)))))) = some r := by rw [if_neg (show ¬ (false = true) by decide)] at H; exact H
        clear H
        have H := H1
        clear H1
        replace H := Option.bind_eq_some_iff.mp H
        obtain ⟨t106, A170, H⟩ := H
        replace H : ((row_Key.f kj4 l0).bind fun t107 => ((row_Key.f kj4 l1).bind fun t108 => ((instarlaw05_alive.f kj4).bind fun t109 => (if t109 = true then (if ((Op.bytesLess t107.toList t108.toList) == (decide (t106 < 0))) = true then (if ((t107.toList == t108.toList) == (t106 == 0)) = true then ((row_Compare.f kj4 l1 l0).bind fun t110 => (if t110 = (wrap64 (-t106)) then ((row_Same.f kj4 l0 l1).bind fun t111 => (if (t111 == (t106 == 0)) = true then ((row_Same.f kj4 l0 l0).bind fun t112 => (some t112)) else (some false))) else (some false))) else (some false)) else (some false)) else (some false))))) = some r := H
        have A17 := Aside0.mk A170
        clear A170
        replace H := Option.bind_eq_some_iff.mp H
        obtain ⟨t107, A180, H⟩ := H
        replace H : ((row_Key.f kj4 l1).bind fun t108 => ((instarlaw05_alive.f kj4).bind fun t109 => (if t109 = true then (if ((Op.bytesLess t107.toList t108.toList) == (decide (t106 < 0))) = true then (if ((t107.toList == t108.toList) == (t106 == 0)) = true then ((row_Compare.f kj4 l1 l0).bind fun t110 => (if t110 = (wrap64 (-t106)) then ((row_Same.f kj4 l0 l1).bind fun t111 => (if (t111 == (t106 == 0)) = true then ((row_Same.f kj4 l0 l0).bind fun t112 => (some t112)) else (some false))) else (some false))) else (some false)) else (some false)) else (some false)))) = some r := H
        have A18 := Aside0.mk A180
        clear A180
        replace H := Option.bind_eq_some_iff.mp H
        obtain ⟨t108, A190, H⟩ := H
        replace H : ((instarlaw05_alive.f kj4).bind fun t109 => (if t109 = true then (if ((Op.bytesLess t107.toList t108.toList) == (decide (t106 < 0))) = true then (if ((t107.toList == t108.toList) == (t106 == 0)) = true then ((row_Compare.f kj4 l1 l0).bind fun t110 => (if t110 = (wrap64 (-t106)) then ((row_Same.f kj4 l0 l1).bind fun t111 => (if (t111 == (t106 == 0)) = true then ((row_Same.f kj4 l0 l0).bind fun t112 => (some t112)) else (some false))) else (some false))) else (some false)) else (some false)) else (some false))) = some r := H
        have A19 := Aside0.mk A190
        clear A190
        replace H := Option.bind_eq_some_iff.mp H
        obtain ⟨t109, A200, H⟩ := H
        replace H : (if t109 = true then (if ((Op.bytesLess t107.toList t108.toList) == (decide (t106 < 0))) = true then (if ((t107.toList == t108.toList) == (t106 == 0)) = true then ((row_Compare.f kj4 l1 l0).bind fun t110 => (if t110 = (wrap64 (-t106)) then ((row_Same.f kj4 l0 l1).bind fun t111 => (if (t111 == (t106 == 0)) = true then ((row_Same.f kj4 l0 l0).bind fun t112 => (some t112)) else (some false))) else (some false))) else (some false)) else (some false)) else (some false)) = some r := H
        have A20 := Aside0.mk A200
        clear A200
        by_cases c21 : t109 = true
        · subst c21
          have H1 : (if ((Op.bytesLess t107.toList t108.toList) == (decide (t106 < 0))) = true then (if ((t107.toList == t108.toList) == (t106 == 0)) = true then ((row_Compare.f kj4 l1 l0).bind fun t110 => (if t110 = (wrap64 (-t106)) then ((row_Same.f kj4 l0 l1).bind fun t111 => (if (t111 == (t106 == 0)) = true then ((row_Same.f kj4 l0 l0).bind fun t112 => (some t112)) else (some false))) else (some false))) else (some false)) else (some false)) = some r := by rw [if_pos rfl] at H; exact H
          clear H
          have H := H1
          clear H1
          by_cases c22 : ((Op.bytesLess t107.toList t108.toList) == (decide (t106 < 0))) = true
          · rw [if_pos c22] at H
            have c22b0 : ((Op.bytesLess t107.toList t108.toList) == (decide (t106 < 0))) = true := c22
            (try (have c22b1 : decide ((Op.bytesLess t107.toList t108.toList) = (decide (t106 < 0))) = true := by simpa using c22))
            (try (have c22b2 : ((Op.bytesLess t107.toList t108.toList) == (decide (t106 < 0))) = true := by simpa using c22))
            clear c22
            by_cases c23 : ((t107.toList == t108.toList) == (t106 == 0)) = true
            · rw [if_pos c23] at H
              have c23b0 : ((t107.toList == t108.toList) == (t106 == 0)) = true := c23
              (try (have c23b1 : decide ((t107.toList == t108.toList) = (t106 == 0)) = true := by simpa using c23))
              (try (have c23b2 : ((t107.toList == t108.toList) == (t106 == 0)) = true := by simpa using c23))
              clear c23
              replace H := Option.bind_eq_some_iff.mp H
              obtain ⟨t110, A240, H⟩ := H
              replace H : (if t110 = (wrap64 (-t106)) then ((row_Same.f kj4 l0 l1).bind fun t111 => (if (t111 == (t106 == 0)) = true then ((row_Same.f kj4 l0 l0).bind fun t112 => (some t112)) else (some false))) else (some false)) = some r := H
              have A24 := Aside0.mk A240
              clear A240
              by_cases c25 : t110 = (wrap64 (-t106))
              · rw [if_pos c25] at H
                have c25b0 : (t110 == (wrap64 (-t106))) = true := beq_iff_eq.mpr c25
                have c25b1 : (t110 != (wrap64 (-t106))) = false := bne_eq_false_iff_eq.mpr c25
                clear c25
                replace H := Option.bind_eq_some_iff.mp H
                obtain ⟨t111, A260, H⟩ := H
                replace H : (if (t111 == (t106 == 0)) = true then ((row_Same.f kj4 l0 l0).bind fun t112 => (some t112)) else (some false)) = some r := H
                have A26 := Aside0.mk A260
                clear A260
                by_cases c27 : (t111 == (t106 == 0)) = true
                · rw [if_pos c27] at H
                  have c27b0 : (t111 == (t106 == 0)) = true := c27
                  (try (have c27b1 : decide (t111 = (t106 == 0)) = true := by simpa using c27))
                  (try (have c27b2 : (t111 == (t106 == 0)) = true := by simpa using c27))
                  clear c27
                  replace H := Option.bind_eq_some_iff.mp H
                  obtain ⟨t112, A280, H⟩ := H
                  replace H : (some t112) = some r := H
                  have A28 := Aside0.mk A280
                  clear A280
                  obtain rfl := Option.some.inj H
                  go_wp2_with (first | ((with_reducible refine gate_callee (f := 22) rfl ?_); refine goesL_ (some 33) rfl rfl Tryd.func22 (by kernel_rfl) rfl #[.slice A0 l0.length c0, .slice A1 l1.length c1] rfl (by (try simp only [List.map_toArray, List.map_cons, List.map_nil]); first | done | rfl | (simp only [List.length_drop, List.length_take]; rfl)) ?_; (with_reducible refine (row_Compare.calls kj4 _ _ l0 _ _ l1 t106 _ ?side1 ?side2 ?side3 ?side4 A17.out).mono ?_); (case side1 => repeat (first | exact (Kd.C_below HR0.out HB.out) | (with_reducible refine Kd.C_alloc ?_ _) | (with_reducible refine Kd.C_drewN ?_ _) | (with_reducible refine Kd.C_drew ?_))); (case side2 => exact HC0.out); (case side3 => repeat (first | exact (Kd.C_below HR1.out HB.out) | (with_reducible refine Kd.C_alloc ?_ _) | (with_reducible refine Kd.C_drewN ?_ _) | (with_reducible refine Kd.C_drew ?_))); (case side4 => exact HC1.out); rintro e w29 ⟨rfl, hb⟩; refine ⟨_, rfl, ?_⟩; have n0_ := Aside0.mk (below_step (by repeat (first | (with_reducible first | exact HB.out | apply below_alloc | apply pw_below_drewN | apply below_drew1) | exact HB.out)) hb); clear HB; have HB := n0_; clear n0_; (try clear hb); (try clear hb2); (try clear hk); (try clear hi)) | ((with_reducible refine gate_callee (f := 18) rfl ?_); refine goesL_ (some 35) rfl rfl Tryd.func18 (by kernel_rfl) rfl #[.slice A0 l0.length c0] rfl (by (try simp only [List.map_toArray, List.map_cons, List.map_nil]); first | done | rfl | (simp only [List.length_drop, List.length_take]; rfl)) ?_; (with_reducible refine (row_Key.calls kj4 _ _ l0 t107 _ ?side1 ?side2 ?side3 A18.out).mono ?_); (case side1 => repeat (first | exact (Kd.C_below HR0.out HB.out) | (with_reducible refine Kd.C_alloc ?_ _) | (with_reducible refine Kd.C_drewN ?_ _) | (with_reducible refine Kd.C_drew ?_))); (case side2 => exact HC0.out); (case side3 => first | exact hG | exact Go.Proofs.YtinjibbjlcfkaaaDoor.Bs.Gl.below hG (by repeat (first | (with_reducible first | exact HB.out | apply below_alloc | apply pw_below_drewN | apply below_drew1) | exact HB.out)) | (repeat (first | exact hG | refine Go.Proofs.YtinjibbjlcfkaaaDoor.Bs.Gl.drewN ?_ _))); rintro e w30 ⟨rfl, hb⟩; refine ⟨_, rfl, ?_⟩; have n0_ := Aside0.mk (below_step (by repeat (first | (with_reducible first | exact HB.out | apply below_alloc | apply pw_below_drewN | apply below_drew1) | exact HB.out)) hb); clear HB; have HB := n0_; clear n0_; (try clear hb); (try clear hb2); (try clear hk); (try clear hi)) | ((with_reducible refine gate_callee (f := 18) rfl ?_); refine goesL_ (some 37) rfl rfl Tryd.func18 (by kernel_rfl) rfl #[.slice A1 l1.length c1] rfl (by (try simp only [List.map_toArray, List.map_cons, List.map_nil]); first | done | rfl | (simp only [List.length_drop, List.length_take]; rfl)) ?_; (with_reducible refine (row_Key.calls kj4 _ _ l1 t108 _ ?side1 ?side2 ?side3 A19.out).mono ?_); (case side1 => repeat (first | exact (Kd.C_below HR1.out HB.out) | (with_reducible refine Kd.C_alloc ?_ _) | (with_reducible refine Kd.C_drewN ?_ _) | (with_reducible refine Kd.C_drew ?_))); (case side2 => exact HC1.out); (case side3 => first | exact hG | exact Go.Proofs.YtinjibbjlcfkaaaDoor.Bs.Gl.below hG (by repeat (first | (with_reducible first | exact HB.out | apply below_alloc | apply pw_below_drewN | apply below_drew1) | exact HB.out)) | (repeat (first | exact hG | refine Go.Proofs.YtinjibbjlcfkaaaDoor.Bs.Gl.drewN ?_ _))); rintro e w31 ⟨rfl, hb⟩; refine ⟨_, rfl, ?_⟩; have n0_ := Aside0.mk (below_step (by repeat (first | (with_reducible first | exact HB.out | apply below_alloc | apply pw_below_drewN | apply below_drew1) | exact HB.out)) hb); clear HB; have HB := n0_; clear n0_; (try clear hb); (try clear hb2); (try clear hk); (try clear hi)) | ((with_reducible refine gate_callee (f := 7) rfl ?_); refine goesL_ (some 38) rfl rfl Tryd.func7 (by kernel_rfl) rfl #[] rfl (by (try simp only [List.map_toArray, List.map_cons, List.map_nil]); first | done | rfl | (simp only [List.length_drop, List.length_take]; rfl)) ?_; (with_reducible refine (instarlaw05_alive.calls kj4  true _ ?side1 A20.out).mono ?_); (case side1 => first | exact hG | exact Go.Proofs.YtinjibbjlcfkaaaDoor.Bs.Gl.below hG (by repeat (first | (with_reducible first | exact HB.out | apply below_alloc | apply pw_below_drewN | apply below_drew1) | exact HB.out)) | (repeat (first | exact hG | refine Go.Proofs.YtinjibbjlcfkaaaDoor.Bs.Gl.drewN ?_ _))); rintro e w32 ⟨rfl, hb⟩; refine ⟨_, rfl, ?_⟩; have n0_ := Aside0.mk (below_step (by repeat (first | (with_reducible first | exact HB.out | apply below_alloc | apply pw_below_drewN | apply below_drew1) | exact HB.out)) hb); clear HB; have HB := n0_; clear n0_; (try clear hb); (try clear hb2); (try clear hk); (try clear hi)) | (go_at_call 22; (with_reducible refine (row_Compare.calls kj4 _ _ l1 _ _ l0 t110 _ ?side1 ?side2 ?side3 ?side4 A24.out).mono ?_); (case side1 => repeat (first | exact (Kd.C_below HR1.out HB.out) | (with_reducible refine Kd.C_alloc ?_ _) | (with_reducible refine Kd.C_drewN ?_ _) | (with_reducible refine Kd.C_drew ?_))); (case side2 => exact HC1.out); (case side3 => repeat (first | exact (Kd.C_below HR0.out HB.out) | (with_reducible refine Kd.C_alloc ?_ _) | (with_reducible refine Kd.C_drewN ?_ _) | (with_reducible refine Kd.C_drew ?_))); (case side4 => exact HC0.out); rintro e w33 ⟨rfl, hb⟩; have n0_ := Aside0.mk (below_step (by repeat (first | (with_reducible first | exact HB.out | apply below_alloc | apply pw_below_drewN | apply below_drew1) | exact HB.out)) hb); clear HB; have HB := n0_; clear n0_; (try clear hb); (try clear hb2); (try clear hk); (try clear hi)) | (go_at_call 24; (with_reducible refine (row_Same.calls kj4 _ _ l0 _ _ l1 t111 _ ?side1 ?side2 ?side3 ?side4 A26.out).mono ?_); (case side1 => repeat (first | exact (Kd.C_below HR0.out HB.out) | (with_reducible refine Kd.C_alloc ?_ _) | (with_reducible refine Kd.C_drewN ?_ _) | (with_reducible refine Kd.C_drew ?_))); (case side2 => exact HC0.out); (case side3 => repeat (first | exact (Kd.C_below HR1.out HB.out) | (with_reducible refine Kd.C_alloc ?_ _) | (with_reducible refine Kd.C_drewN ?_ _) | (with_reducible refine Kd.C_drew ?_))); (case side4 => exact HC1.out); rintro e w' ⟨rfl, ⟨nd, rfl⟩⟩) | (go_at_call 24; (with_reducible refine (row_Same.calls kj4 _ _ l0 _ _ l0 t112 _ ?side1 ?side2 ?side3 ?side4 A28.out).mono ?_); (case side1 => repeat (first | exact (Kd.C_below HR0.out (by repeat (first | (with_reducible first | exact HB.out | apply below_alloc | apply pw_below_drewN | apply below_drew1) | exact HB.out))) | (with_reducible refine Kd.C_alloc ?_ _) | (with_reducible refine Kd.C_drewN ?_ _) | (with_reducible refine Kd.C_drew ?_))); (case side2 => exact HC0.out); (case side3 => repeat (first | exact (Kd.C_below HR0.out (by repeat (first | (with_reducible first | exact HB.out | apply below_alloc | apply pw_below_drewN | apply below_drew1) | exact HB.out))) | (with_reducible refine Kd.C_alloc ?_ _) | (with_reducible refine Kd.C_drewN ?_ _) | (with_reducible refine Kd.C_drew ?_))); (case side4 => exact HC0.out); rintro e w' ⟨rfl, ⟨nd, rfl⟩⟩))
                  go_ret
                  exact ⟨by first | rfl | (simp [errW_none, errW_some] <;> rfl) | (simp [*, errW_none, errW_some] <;> rfl), by repeat (first | (with_reducible first | exact HB.out | apply below_alloc | apply pw_below_drewN | apply below_drew1) | exact HB.out)⟩
                · rw [if_neg c27] at H
                  have c27b0 : (t111 == (t106 == 0)) = false := by simpa using c27
                  (try (have c27b1 : decide (t111 = (t106 == 0)) = false := by simpa using c27))
                  (try (have c27b2 : (t111 == (t106 == 0)) = false := by simpa using c27))
                  (try (have c27b3 : ¬ (t111 = (t106 == 0)) := by simpa using c27))
                  clear c27
                  exact absurd ((Option.some.inj H).trans hr_.out) (by decide)
              · rw [if_neg c25] at H
                have c25b0 : (t110 == (wrap64 (-t106))) = false := beq_eq_false_iff_ne.mpr c25
                have c25b1 : (t110 != (wrap64 (-t106))) = true := bne_iff_ne.mpr c25
                exact absurd ((Option.some.inj H).trans hr_.out) (by decide)
            · rw [if_neg c23] at H
              have c23b0 : ((t107.toList == t108.toList) == (t106 == 0)) = false := by simpa using c23
              (try (have c23b1 : decide ((t107.toList == t108.toList) = (t106 == 0)) = false := by simpa using c23))
              (try (have c23b2 : ((t107.toList == t108.toList) == (t106 == 0)) = false := by simpa using c23))
              (try (have c23b3 : ¬ ((t107.toList == t108.toList) = (t106 == 0)) := by simpa using c23))
              clear c23
              exact absurd ((Option.some.inj H).trans hr_.out) (by decide)
          · rw [if_neg c22] at H
            have c22b0 : ((Op.bytesLess t107.toList t108.toList) == (decide (t106 < 0))) = false := by simpa using c22
            (try (have c22b1 : decide ((Op.bytesLess t107.toList t108.toList) = (decide (t106 < 0))) = false := by simpa using c22))
            (try (have c22b2 : ((Op.bytesLess t107.toList t108.toList) == (decide (t106 < 0))) = false := by simpa using c22))
            (try (have c22b3 : ¬ ((Op.bytesLess t107.toList t108.toList) = (decide (t106 < 0))) := by simpa using c22))
            clear c22
            exact absurd ((Option.some.inj H).trans hr_.out) (by decide)
        · replace c21 := Bool.eq_false_iff.mpr c21
          subst c21
          have H1 : (some false) = some r := by rw [if_neg (show ¬ (false = true) by decide)] at H; exact H
          clear H
          have H := H1
          clear H1
          exact absurd ((Option.some.inj H).trans hr_.out) (by decide)

end Go.Proofs.YtinjibbjlcfkaaaDoor.PD
