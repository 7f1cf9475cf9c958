-- printed by drv.py (this session) by way of the kit's print.py, and given texts
import Derived.Test.YtinjibbjlcfkaaaDoorPCx0
import Derived.Test.YtinjibbjlcfkaaaDoorPCx2
import Derived.Test.YtinjibbjlcfkaaaDoorPCx6
import Derived.Test.YtinjibbjlcfkaaaDoorPCx7
namespace Go.Proofs.YtinjibbjlcfkaaaDoor.PC
open Go.RowKit Go.Proofs.YtinjibbjlcfkaaaDoorW.PrintWords Go.Proofs.YtinjibbjlcfkaaaDoorW.PrintLast Go.Proofs.YtinjibbjlcfkaaaDoorW.PrintMore
attribute [local go_sem] max2_int min2_int max_two min_two max_three min_three max_four min_four   -- for this text's walks alone
attribute [local go_sem high] Go.Proofs.YtinjibbjlcfkaaaDoor.Bs.gtr_bl Go.Proofs.YtinjibbjlcfkaaaDoor.Bs.leq_bl
set_option linter.unusedVariables false
set_option linter.unusedSimpArgs false

/-! ### instarlaw05_RowPicks: function 3 -/
mutual
def instarlaw05_RowPicks.j0 : Nat → List (List (S35)) → List Int → Bool → Option (Bool)
  | 0, _, _, _ => none
  | k + 1, x0, x1, x20 => if x20 = true then ((instarlaw05_alive.f k).bind fun t101 => (some t101)) else (instarlaw05_RowPicks.l0 k x0 x1 0)
def instarlaw05_RowPicks.l0 : Nat → List (List (S35)) → List Int → Int → Option (Bool)
  | 0, _, _, _ => none
  | k + 1, x0, x1, x5 => if x5 < (x0.length : Int) then (if 0 ≤ x5 then ((instarlaw05_Small.f k (rd_L4 x0 x5)).bind fun t103 => (if t103 = true then ((row_Pick.f k (rd_L4 x0 x5) x1).bind fun bt106 => ((instarref05_Pick.f k (rd_L4 x0 x5) x1).bind fun bt111 => ((instarref05_Same.f k bt106.1 bt111.1).bind fun t115 => (if t115 = true then (instarlaw05_RowPicks.j2 k x0 x1 x5 bt106.1 (bt106.2 != bt111.2)) else (instarlaw05_RowPicks.j2 k x0 x1 x5 bt106.1 true))))) else ((instarlaw05_alive.f k).bind fun t104 => (some t104)))) else (none)) else ((instarlaw05_alive.f k).bind fun t126 => (if t126 = true then ((row_Join.f x0).bind fun t127 => ((instarref05_Join.f k x0).bind fun t130 => ((instarref05_Same.f k t127 t130).bind fun t133 => (some t133)))) else (some false)))
def instarlaw05_RowPicks.j2 : Nat → List (List (S35)) → List Int → Int → List (S35) → Bool → Option (Bool)
  | 0, _, _, _, _, _ => none
  | k + 1, x0, x1, x5, x7, x62 => if x62 = true then (some false) else ((some (([] : List (S35)) : List (S35))).bind fun y116 => (if 0 ≤ x5 then (if x5 < (x0.length : Int) then (if y116.length + (rd_L4 x0 x5).length < 4398046511104 then (instarlaw05_RowPicks.l1 k x0 x1 x5 x7 (y116 ++ (rd_L4 x0 x5)) 0) else (none)) else (none)) else (none)))
def instarlaw05_RowPicks.l1 : Nat → List (List (S35)) → List Int → Int → List (S35) → List (S35) → Int → Option (Bool)
  | 0, _, _, _, _, _, _ => none
  | k + 1, x0, x1, x5, x7, x11, x12 => if x12 < (x7.length : Int) then (if 0 ≤ x12 then (instarlaw05_RowPicks.l1 k x0 x1 x5 (x7.set (x12 : Int).toNat (⟨4, 0, (⟨#[109, 105, 110, 101]⟩ : ByteArray)⟩ : S35)) x11 (wrap64 (x12 + 1))) else (none)) else (if 0 ≤ x5 then (if x5 < (x0.length : Int) then ((instarref05_Same.f k x11 (rd_L4 x0 x5)).bind fun t125 => (if t125 = true then (instarlaw05_RowPicks.l0 k x0 x1 (wrap64 (x5 + 1))) else (some false))) else (none)) else (none))
end
def instarlaw05_RowPicks.f (k : Nat) (l0 : List (List (S35))) (l1 : List Int) : Option (Bool) := if (l0.length : Int) > 30 then (instarlaw05_RowPicks.j0 k l0 l1 true) else (instarlaw05_RowPicks.j0 k l0 l1 (decide ((l1.length : Int) > 30)))
theorem instarlaw05_RowPicks.mono_l : ∀ k, (∀ y0 y1 y2, LeO (instarlaw05_RowPicks.j0 k y0 y1 y2) (instarlaw05_RowPicks.j0 (k + 1) y0 y1 y2)) ∧ (∀ y0 y1 y2, LeO (instarlaw05_RowPicks.l0 k y0 y1 y2) (instarlaw05_RowPicks.l0 (k + 1) y0 y1 y2)) ∧ (∀ y0 y1 y2 y3 y4, LeO (instarlaw05_RowPicks.j2 k y0 y1 y2 y3 y4) (instarlaw05_RowPicks.j2 (k + 1) y0 y1 y2 y3 y4)) ∧ (∀ y0 y1 y2 y3 y4 y5, LeO (instarlaw05_RowPicks.l1 k y0 y1 y2 y3 y4 y5) (instarlaw05_RowPicks.l1 (k + 1) y0 y1 y2 y3 y4 y5))
  | 0 => ⟨fun _ _ _ r h => by simp [instarlaw05_RowPicks.j0] at h, fun _ _ _ r h => by simp [instarlaw05_RowPicks.l0] at h, fun _ _ _ _ _ r h => by simp [instarlaw05_RowPicks.j2] at h, fun _ _ _ _ _ _ r h => by simp [instarlaw05_RowPicks.l1] at h⟩
  | k + 1 => by
    obtain ⟨ih0, ih1, ih2, ih3⟩ := instarlaw05_RowPicks.mono_l k
    refine ⟨?_, ?_, ?_, ?_⟩
    · intro y0 y1 y2
      unfold instarlaw05_RowPicks.j0
      repeat' first
      | (with_reducible exact ih0 _ _ _)
      | (with_reducible exact ih1 _ _ _)
      | (with_reducible exact ih2 _ _ _ _ _)
      | (with_reducible exact ih3 _ _ _ _ _ _)
      | (with_reducible exact instarlaw05_Small.mono _ _)
      | (with_reducible exact instarlaw05_alive.mono _)
      | (with_reducible exact instarref05_Join.mono _ _)
      | (with_reducible exact instarref05_Pick.mono _ _ _)
      | (with_reducible exact instarref05_Same.mono _ _ _)
      | (with_reducible exact row_Pick.mono _ _ _)
      | (with_reducible exact LeO.refl _)
      | (with_reducible exact LeO.none _)
      | (with_reducible refine LeO.ite ?_ ?_)
      | (with_reducible refine LeO.bind ?_ (fun _ => ?_))
      | exact ih0 _ _ _
      | exact ih1 _ _ _
      | exact ih2 _ _ _ _ _
      | exact ih3 _ _ _ _ _ _
      | exact instarlaw05_Small.mono _ _
      | exact instarlaw05_alive.mono _
      | exact instarref05_Join.mono _ _
      | exact instarref05_Pick.mono _ _ _
      | exact instarref05_Same.mono _ _ _
      | exact row_Pick.mono _ _ _
      | exact LeO.none _
      | refine LeO.ite ?_ ?_
      | refine LeO.bind ?_ (fun _ => ?_)
    · intro y0 y1 y2
      unfold instarlaw05_RowPicks.l0
      repeat' first
      | (with_reducible exact ih0 _ _ _)
      | (with_reducible exact ih1 _ _ _)
      | (with_reducible exact ih2 _ _ _ _ _)
      | (with_reducible exact ih3 _ _ _ _ _ _)
      | (with_reducible exact instarlaw05_Small.mono _ _)
      | (with_reducible exact instarlaw05_alive.mono _)
      | (with_reducible exact instarref05_Join.mono _ _)
      | (with_reducible exact instarref05_Pick.mono _ _ _)
      | (with_reducible exact instarref05_Same.mono _ _ _)
      | (with_reducible exact row_Pick.mono _ _ _)
      | (with_reducible exact LeO.refl _)
      | (with_reducible exact LeO.none _)
      | (with_reducible refine LeO.ite ?_ ?_)
      | (with_reducible refine LeO.bind ?_ (fun _ => ?_))
      | exact ih0 _ _ _
      | exact ih1 _ _ _
      | exact ih2 _ _ _ _ _
      | exact ih3 _ _ _ _ _ _
      | exact instarlaw05_Small.mono _ _
      | exact instarlaw05_alive.mono _
      | exact instarref05_Join.mono _ _
      | exact instarref05_Pick.mono _ _ _
      | exact instarref05_Same.mono _ _ _
      | exact row_Pick.mono _ _ _
      | exact LeO.none _
      | refine LeO.ite ?_ ?_
      | refine LeO.bind ?_ (fun _ => ?_)
    · intro y0 y1 y2 y3 y4
      unfold instarlaw05_RowPicks.j2
      repeat' first
      | (with_reducible exact ih0 _ _ _)
      | (with_reducible exact ih1 _ _ _)
      | (with_reducible exact ih2 _ _ _ _ _)
      | (with_reducible exact ih3 _ _ _ _ _ _)
      | (with_reducible exact instarlaw05_Small.mono _ _)
      | (with_reducible exact instarlaw05_alive.mono _)
      | (with_reducible exact instarref05_Join.mono _ _)
      | (with_reducible exact instarref05_Pick.mono _ _ _)
      | (with_reducible exact instarref05_Same.mono _ _ _)
      | (with_reducible exact row_Pick.mono _ _ _)
      | (with_reducible exact LeO.refl _)
      | (with_reducible exact LeO.none _)
      | (with_reducible refine LeO.ite ?_ ?_)
      | (with_reducible refine LeO.bind ?_ (fun _ => ?_))
      | exact ih0 _ _ _
      | exact ih1 _ _ _
      | exact ih2 _ _ _ _ _
      | exact ih3 _ _ _ _ _ _
      | exact instarlaw05_Small.mono _ _
      | exact instarlaw05_alive.mono _
      | exact instarref05_Join.mono _ _
      | exact instarref05_Pick.mono _ _ _
      | exact instarref05_Same.mono _ _ _
      | exact row_Pick.mono _ _ _
      | exact LeO.none _
      | refine LeO.ite ?_ ?_
      | refine LeO.bind ?_ (fun _ => ?_)
    · intro y0 y1 y2 y3 y4 y5
      unfold instarlaw05_RowPicks.l1
      repeat' first
      | (with_reducible exact ih0 _ _ _)
      | (with_reducible exact ih1 _ _ _)
      | (with_reducible exact ih2 _ _ _ _ _)
      | (with_reducible exact ih3 _ _ _ _ _ _)
      | (with_reducible exact instarlaw05_Small.mono _ _)
      | (with_reducible exact instarlaw05_alive.mono _)
      | (with_reducible exact instarref05_Join.mono _ _)
      | (with_reducible exact instarref05_Pick.mono _ _ _)
      | (with_reducible exact instarref05_Same.mono _ _ _)
      | (with_reducible exact row_Pick.mono _ _ _)
      | (with_reducible exact LeO.refl _)
      | (with_reducible exact LeO.none _)
      | (with_reducible refine LeO.ite ?_ ?_)
      | (with_reducible refine LeO.bind ?_ (fun _ => ?_))
      | exact ih0 _ _ _
      | exact ih1 _ _ _
      | exact ih2 _ _ _ _ _
      | exact ih3 _ _ _ _ _ _
      | exact instarlaw05_Small.mono _ _
      | exact instarlaw05_alive.mono _
      | exact instarref05_Join.mono _ _
      | exact instarref05_Pick.mono _ _ _
      | exact instarref05_Same.mono _ _ _
      | exact row_Pick.mono _ _ _
      | exact LeO.none _
      | refine LeO.ite ?_ ?_
      | refine LeO.bind ?_ (fun _ => ?_)
theorem instarlaw05_RowPicks.mono : ∀ a0 a1 k, LeO (instarlaw05_RowPicks.f k a0 a1) (instarlaw05_RowPicks.f (k + 1) a0 a1) := by
  intro a0 a1 k
  obtain ⟨ih0, ih1, ih2, ih3⟩ := instarlaw05_RowPicks.mono_l k
  unfold instarlaw05_RowPicks.f
  repeat' first
      | (with_reducible exact ih0 _ _ _)
      | (with_reducible exact ih1 _ _ _)
      | (with_reducible exact ih2 _ _ _ _ _)
      | (with_reducible exact ih3 _ _ _ _ _ _)
      | (with_reducible exact instarlaw05_Small.mono _ _)
      | (with_reducible exact instarlaw05_alive.mono _)
      | (with_reducible exact instarref05_Join.mono _ _)
      | (with_reducible exact instarref05_Pick.mono _ _ _)
      | (with_reducible exact instarref05_Same.mono _ _ _)
      | (with_reducible exact row_Pick.mono _ _ _)
      | (with_reducible exact LeO.refl _)
      | (with_reducible exact LeO.none _)
      | (with_reducible refine LeO.ite ?_ ?_)
      | (with_reducible refine LeO.bind ?_ (fun _ => ?_))
      | exact ih0 _ _ _
      | exact ih1 _ _ _
      | exact ih2 _ _ _ _ _
      | exact ih3 _ _ _ _ _ _
      | exact instarlaw05_Small.mono _ _
      | exact instarlaw05_alive.mono _
      | exact instarref05_Join.mono _ _
      | exact instarref05_Pick.mono _ _ _
      | exact instarref05_Same.mono _ _ _
      | exact row_Pick.mono _ _ _
      | exact LeO.none _
      | refine LeO.ite ?_ ?_
      | refine LeO.bind ?_ (fun _ => ?_)
set_option maxHeartbeats 8000000 in
set_option maxRecDepth 100000 in
theorem instarlaw05_RowPicks.calls (k : Nat) (A0 : Option Addr) (c0 : Nat) (l0 : List (List (S35))) (A1 : Option Addr) (c1 : Nat) (l1 : List Int) (r : Bool) (w : World) (hr0 : Kd.C (Kd.slice 35 k35) w A0 l0.length l0) (hc0 : l0.length ≤ c0) (hr1 : Kd.C (Kd.int .i64) w A1 l1.length l1) (hc1 : l1.length ≤ c1) (hG : Go.Proofs.YtinjibbjlcfkaaaDoor.Bs.Gl w) (hr_ : Aside0 (r = true)) (h : instarlaw05_RowPicks.f k l0 l1 = some r) :
    Calls Tryd.prog 3 #[.slice A0 l0.length c0, .slice A1 l1.length c1] w fun e w' => e = .returned (.bool r) ∧ Below w.heap.size w w' := by
  have hu35 := Tryd.underlying35
  have HR0 := Aside0.mk hr0
  have HC0 := Aside0.mk hc0
  clear hr0 hc0
  have HR1 := Aside0.mk hr1
  have HC1 := Aside0.mk hc1
  clear hr1 hc1
  have HB := Aside0.mk (Below.refl w.heap.size w)
  have H : (if (l0.length : Int) > 30 then (instarlaw05_RowPicks.j0 k l0 l1 true) else (instarlaw05_RowPicks.j0 k l0 l1 (decide ((l1.length : Int) > 30)))) = some r := h
  clear h
  have HC3 := Aside0.mk H
  clear H
  go_enter Tryd.func3, Tryd.ntmps3
  go_upto_region 1 with (fail)
  go_cut [20] (fun v20 wc => ∃ (kq : Nat) (x20_2 : Bool), v20 = .bool x20_2 ∧ Aside0 (instarlaw05_RowPicks.j0 kq l0 l1 x20_2 = some r) ∧ Aside0 (kq ≤ k) ∧ Aside0 (Below w.heap.size w wc))
  case first =>
    have H := HC3.out
    clear HC3
    by_cases c4 : (l0.length : Int) > 30
    · rw [if_pos c4] at H
      have c4b0 : decide (30 < (l0.length : Int)) = true := decide_eq_true c4
      have c4b1 : decide (30 < l0.length) = true := decide_eq_true (by omega)
      clear c4
      (first | rw [c4b0] | (simp only [i64_w, i32_w]; rw [c4b0]) | skip)
      have H' := Aside0.mk H
      clear H
      go_wp2
      go_meet
      case rel => exact ⟨_, (true), (by first | rfl | (simp; done) | (simp [*]; done) | (simp [Go.Proofs.YtinjibbjlcfkaaaDoor.Bs.isEmpty_bne, Go.Proofs.YtinjibbjlcfkaaaDoor.Bs.isEmpty_beq]; done)), H', ⟨by first | omega | exact Nat.le_refl _⟩, ⟨by repeat (first | (with_reducible first | exact HB.out | apply below_alloc | apply pw_below_drewN | apply below_drew1) | exact HB.out)⟩⟩
    · rw [if_neg c4] at H
      have c4b0 : decide (30 < (l0.length : Int)) = false := decide_eq_false c4
      have c4b1 : decide (30 < l0.length) = false := decide_eq_false (by omega)
      clear c4
      (first | rw [c4b0] | (simp only [i64_w, i32_w]; rw [c4b0]) | skip)
      have H' := Aside0.mk H
      clear H
      go_wp2
      go_meet
      case rel => exact ⟨_, (decide ((l1.length : Int) > 30)), (by first | rfl | (simp; done) | (simp [*]; done) | (simp [Go.Proofs.YtinjibbjlcfkaaaDoor.Bs.isEmpty_bne, Go.Proofs.YtinjibbjlcfkaaaDoor.Bs.isEmpty_beq]; done)), H', ⟨by first | omega | exact Nat.le_refl _⟩, ⟨by repeat (first | (with_reducible first | exact HB.out | apply below_alloc | apply pw_below_drewN | apply below_drew1) | exact HB.out)⟩⟩
  case rest =>
    clear HC3
    try clear c1
    try clear p2
    try clear c3
    try clear c4
    try clear c4b0
    try clear c4b1
    obtain ⟨kq, x20_2, rfl, HA, HJ2, HB⟩ := hcut
    cases kq with
    | zero => exact absurd HA.out (by simp [instarlaw05_RowPicks.j0])
    | succ kj2 =>
      have H := HA.out
      clear HA
      simp only [instarlaw05_RowPicks.j0] at H
      by_cases c5 : x20_2 = true
      · subst c5
        have H1 : ((instarlaw05_alive.f kj2).bind fun t101 => (some t101)) = some r := by rw [if_pos rfl] at H; exact H
        clear H
        have H := H1
        clear H1
        replace H := Option.bind_eq_some_iff.mp H
        obtain ⟨t101, A60, H⟩ := H
        replace H : (some t101) = some r := H
        have A6 := Aside0.mk A60
        clear A60
        obtain rfl := Option.some.inj H
        go_wp2_with (first | ((with_reducible refine gate_callee (f := 7) rfl ?_); refine goesL_ (some 21) rfl rfl Tryd.func7 (by kernel_rfl) rfl #[] rfl (by (try simp only [List.map_toArray, List.map_cons, List.map_nil]); first | done | rfl | (simp only [List.length_drop, List.length_take]; rfl)) ?_; (with_reducible refine (instarlaw05_alive.calls kj2  t101 _ ?side1 A6.out).mono ?_); (case side1 => first | exact hG | exact Go.Proofs.YtinjibbjlcfkaaaDoor.Bs.Gl.below hG (by repeat (first | (with_reducible first | exact HB.out | apply below_alloc | apply pw_below_drewN | apply below_drew1) | exact HB.out)) | (repeat (first | exact hG | refine Go.Proofs.YtinjibbjlcfkaaaDoor.Bs.Gl.drewN ?_ _))); rintro e w7 ⟨rfl, hb⟩; refine ⟨_, rfl, ?_⟩; have n0_ := Aside0.mk (below_step (by repeat (first | (with_reducible first | exact HB.out | apply below_alloc | apply pw_below_drewN | apply below_drew1) | exact HB.out)) hb); clear HB; have HB := n0_; clear n0_; (try clear hb); (try clear hb2); (try clear hk); (try clear hi)))
        go_ret
        exact ⟨by first | rfl | (simp [errW_none, errW_some] <;> rfl) | (simp [*, errW_none, errW_some] <;> rfl), by repeat (first | (with_reducible first | exact HB.out | apply below_alloc | apply pw_below_drewN | apply below_drew1) | exact HB.out)⟩
      · replace c5 := Bool.eq_false_iff.mpr c5
        subst c5
        have H1 : (instarlaw05_RowPicks.l0 kj2 l0 l1 0) = some r := by rw [if_neg (show ¬ (false = true) by decide)] at H; exact H
        clear H
        have H := H1
        clear H1
        have H' := Aside0.mk H
        clear H
        go_wp2
        go_loopg [5] kj2 (fun kq v5 w' => ∃ (x5_2 : Int), v5 = .int .i64 x5_2 ∧ Aside0 (instarlaw05_RowPicks.l0 kq l0 l1 x5_2 = some r) ∧ Aside0 (kq ≤ kj2) ∧ Aside0 (Below w.heap.size w w'))
        case atStart => exact ⟨(0), (by first | rfl | (simp; done) | (simp [*]; done) | (simp [Go.Proofs.YtinjibbjlcfkaaaDoor.Bs.isEmpty_bne, Go.Proofs.YtinjibbjlcfkaaaDoor.Bs.isEmpty_beq]; done)), H', ⟨Nat.le_refl _⟩, ⟨by repeat (first | (with_reducible first | exact HB.out | apply below_alloc | apply pw_below_drewN | apply below_drew1) | exact HB.out)⟩⟩
        case round =>
          clear H'
          try clear c1
          try clear p2
          try clear c3
          try clear c4
          try clear c4b0
          try clear c4b1
          try clear c5
          try clear c7
          try clear p2
          obtain ⟨x5_2, rfl, HA, HK2, HB⟩ := hrel
          cases gk with
          | zero => exact absurd HA.out (by simp [instarlaw05_RowPicks.l0])
          | succ k2 =>
            have H := HA.out
            clear HA
            simp only [instarlaw05_RowPicks.l0] at H
            by_cases c8 : x5_2 < (l0.length : Int)
            · rw [if_pos c8] at H
              have c8b0 : decide (x5_2 < (l0.length : Int)) = true := decide_eq_true c8
              clear c8
              by_cases c9 : 0 ≤ x5_2
              · rw [if_pos c9] at H
                have c9b0 : decide (0 ≤ x5_2) = true := decide_eq_true c9
                clear c9
                replace H := Option.bind_eq_some_iff.mp H
                obtain ⟨t103, A100, H⟩ := H
                replace H : (if t103 = true then ((row_Pick.f k2 (rd_L4 l0 x5_2) l1).bind fun bt106 => ((instarref05_Pick.f k2 (rd_L4 l0 x5_2) l1).bind fun bt111 => ((instarref05_Same.f k2 bt106.1 bt111.1).bind fun t115 => (if t115 = true then (instarlaw05_RowPicks.j2 k2 l0 l1 x5_2 bt106.1 (bt106.2 != bt111.2)) else (instarlaw05_RowPicks.j2 k2 l0 l1 x5_2 bt106.1 true))))) else ((instarlaw05_alive.f k2).bind fun t104 => (some t104))) = some r := H
                have A10 := Aside0.mk A100
                clear A100
                by_cases c11 : t103 = true
                · subst c11
                  have H1 : ((row_Pick.f k2 (rd_L4 l0 x5_2) l1).bind fun bt106 => ((instarref05_Pick.f k2 (rd_L4 l0 x5_2) l1).bind fun bt111 => ((instarref05_Same.f k2 bt106.1 bt111.1).bind fun t115 => (if t115 = true then (instarlaw05_RowPicks.j2 k2 l0 l1 x5_2 bt106.1 (bt106.2 != bt111.2)) else (instarlaw05_RowPicks.j2 k2 l0 l1 x5_2 bt106.1 true))))) = some r := by rw [if_pos rfl] at H; exact H
                  clear H
                  have H := H1
                  clear H1
                  replace H := Option.bind_eq_some_iff.mp H
                  obtain ⟨⟨t106, t107⟩, A120, H⟩ := H
                  replace H : ((instarref05_Pick.f k2 (rd_L4 l0 x5_2) l1).bind fun bt111 => ((instarref05_Same.f k2 t106 bt111.1).bind fun t115 => (if t115 = true then (instarlaw05_RowPicks.j2 k2 l0 l1 x5_2 t106 (t107 != bt111.2)) else (instarlaw05_RowPicks.j2 k2 l0 l1 x5_2 t106 true)))) = some r := H
                  have A12 := Aside0.mk A120
                  clear A120
                  replace H := Option.bind_eq_some_iff.mp H
                  obtain ⟨⟨t111, t112⟩, A130, H⟩ := H
                  replace H : ((instarref05_Same.f k2 t106 t111).bind fun t115 => (if t115 = true then (instarlaw05_RowPicks.j2 k2 l0 l1 x5_2 t106 (t107 != t112)) else (instarlaw05_RowPicks.j2 k2 l0 l1 x5_2 t106 true))) = some r := H
                  have A13 := Aside0.mk A130
                  clear A130
                  have HC14 := Aside0.mk H
                  clear H
                  have p102 : 0 ≤ (x5_2 : Int) := of_decide_eq_true (by first | (with_reducible assumption) | assumption)
                  have q102 : x5_2 < (l0.length : Int) := of_decide_eq_true (by first | (with_reducible assumption) | assumption)
                  obtain ⟨ad102, A102_0, c102_0, e102, hx102_0, hl102_0, hi102_0⟩ := at_L4 HR0.out x5_2 p102 q102
                  cases e102
                  replace hx102_0 := (HB.out.cell (World.block_lt_of_cell? w _ hx102_0)).trans hx102_0
                  have HR102_0 := Aside0.mk hi102_0
                  have HC102_0 := Aside0.mk hl102_0
                  clear hi102_0 hl102_0
                  replace p102 := eq_true p102
                  replace q102 := eq_true q102
                  go_upto_region 11 with (first | ((with_reducible refine gate_callee (f := 8) rfl ?_); refine goesL_ (some 32) rfl rfl Tryd.func8 (by kernel_rfl) rfl #[.slice A102_0 (rd_L4 l0 x5_2).length c102_0] rfl (by (try simp only [List.map_toArray, List.map_cons, List.map_nil]); first | done | rfl | (simp only [List.length_drop, List.length_take]; rfl)) ?_; (with_reducible refine (instarlaw05_Small.calls k2 _ _ (rd_L4 l0 x5_2) true _ ?side1 ?side2 A10.out).mono ?_); (case side1 => repeat (first | exact (Kd.C_below HR102_0.out HB.out) | (with_reducible refine Kd.C_alloc ?_ _) | (with_reducible refine Kd.C_drewN ?_ _) | (with_reducible refine Kd.C_drew ?_))); (case side2 => exact HC102_0.out); rintro e w' ⟨rfl, ⟨nd, rfl⟩⟩; refine ⟨_, rfl, ?_⟩; have p105 : 0 ≤ (x5_2 : Int) := of_decide_eq_true (by first | (with_reducible assumption) | assumption); have q105 : x5_2 < (l0.length : Int) := of_decide_eq_true (by first | (with_reducible assumption) | assumption); obtain ⟨ad105, A105_0, c105_0, e105, hx105_0, hl105_0, hi105_0⟩ := at_L4 HR0.out x5_2 p105 q105; obtain rfl : ad102 = ad105 := (by injection e105); replace hx105_0 := (HB.out.cell (World.block_lt_of_cell? w _ hx105_0)).trans hx105_0; have HR105_0 := Aside0.mk hi105_0; have HC105_0 := Aside0.mk hl105_0; clear hi105_0 hl105_0; replace p105 := eq_true p105; replace q105 := eq_true q105; have ea_ := Option.some.inj (hx102_0.symm.trans hx105_0); injection ea_ with ea_ en_ ec_; subst ea_; subst ec_; clear en_) | ((with_reducible refine gate_callee (f := 9) rfl ?_); refine goesL_ (some 42) rfl rfl Tryd.func9 (by kernel_rfl) rfl #[.slice A102_0 (rd_L4 l0 x5_2).length c102_0, .slice A1 l1.length c1] rfl (by (try simp only [List.map_toArray, List.map_cons, List.map_nil]); first | done | rfl | (simp only [List.length_drop, List.length_take]; rfl)) ?_; (with_reducible refine (row_Pick.calls k2 _ _ (rd_L4 l0 x5_2) _ _ l1 t106 t107 _ ?side1 ?side2 ?side3 ?side4 A12.out).mono ?_); (case side1 => repeat (first | exact (Kd.C_below HR105_0.out (by repeat (first | (with_reducible first | exact HB.out | apply below_alloc | apply pw_below_drewN | apply below_drew1) | exact HB.out))) | (with_reducible refine Kd.C_alloc ?_ _) | (with_reducible refine Kd.C_drewN ?_ _) | (with_reducible refine Kd.C_drew ?_))); (case side2 => exact HC105_0.out); (case side3 => repeat (first | exact (Kd.C_below HR1.out (by repeat (first | (with_reducible first | exact HB.out | apply below_alloc | apply pw_below_drewN | apply below_drew1) | exact HB.out))) | (with_reducible refine Kd.C_alloc ?_ _) | (with_reducible refine Kd.C_drewN ?_ _) | (with_reducible refine Kd.C_drew ?_))); (case side4 => exact HC1.out); rintro e w15 ⟨v108, rfl, ho0, hb⟩; refine ⟨_, rfl, ?_⟩; have n0_ := Aside0.mk (Kd.R_lower ho0 (below_size (by repeat (first | (with_reducible first | exact HB.out | apply below_alloc | apply pw_below_drewN | apply below_drew1) | exact HB.out)))); have n1_ := Aside0.mk (below_step (by repeat (first | (with_reducible first | exact HB.out | apply below_alloc | apply pw_below_drewN | apply below_drew1) | exact HB.out)) hb); clear HB; have HO109 := n0_; have HB := n1_; clear n0_ n1_; (try clear hb); (try clear hb2); (try clear hk); (try clear hi); (try clear ho0); have p110 : 0 ≤ (x5_2 : Int) := of_decide_eq_true (by first | (with_reducible assumption) | assumption); have q110 : x5_2 < (l0.length : Int) := of_decide_eq_true (by first | (with_reducible assumption) | assumption); obtain ⟨ad110, A110_0, c110_0, e110, hx110_0, hl110_0, hi110_0⟩ := at_L4 HR0.out x5_2 p110 q110; obtain rfl : ad102 = ad110 := (by injection e110); replace hx110_0 := (HB.out.cell (World.block_lt_of_cell? w _ hx110_0)).trans hx110_0; have HR110_0 := Aside0.mk hi110_0; have HC110_0 := Aside0.mk hl110_0; clear hi110_0 hl110_0; replace p110 := eq_true p110; replace q110 := eq_true q110) | ((with_reducible refine gate_callee (f := 10) rfl ?_); refine goesL_ (some 51) rfl rfl Tryd.func10 (by kernel_rfl) rfl #[.slice A110_0 (rd_L4 l0 x5_2).length c110_0, .slice A1 l1.length c1] rfl (by (try simp only [List.map_toArray, List.map_cons, List.map_nil]); first | done | rfl | (simp only [List.length_drop, List.length_take]; rfl)) ?_; (with_reducible refine (instarref05_Pick.calls k2 _ _ (rd_L4 l0 x5_2) _ _ l1 t111 t112 _ ?side1 ?side2 ?side3 ?side4 A13.out).mono ?_); (case side1 => repeat (first | exact (Kd.C_below HR110_0.out HB.out) | (with_reducible refine Kd.C_alloc ?_ _) | (with_reducible refine Kd.C_drewN ?_ _) | (with_reducible refine Kd.C_drew ?_))); (case side2 => exact HC110_0.out); (case side3 => repeat (first | exact (Kd.C_below HR1.out HB.out) | (with_reducible refine Kd.C_alloc ?_ _) | (with_reducible refine Kd.C_drewN ?_ _) | (with_reducible refine Kd.C_drew ?_))); (case side4 => exact HC1.out); rintro e w16 ⟨v113, rfl, ho0, hb⟩; refine ⟨_, rfl, ?_⟩; have n0_ := Aside0.mk (Kd.R_elder' (by (with_reducible repeat (first | apply Kd.R_alloc | apply Kd.R_drewN | apply Kd.R_drew)); exact HO109.out) (Kd.R_base ho0) hb); have n1_ := Aside0.mk (Kd.R_lower (Kd.R_new' ho0 (Kd.R_lt (by (with_reducible repeat (first | apply Kd.R_alloc | apply Kd.R_drewN | apply Kd.R_drew)); exact HO109.out))) (below_size (by repeat (first | (with_reducible first | exact HB.out | apply below_alloc | apply pw_below_drewN | apply below_drew1) | exact HB.out)))); have n2_ := Aside0.mk (below_step (by repeat (first | (with_reducible first | exact HB.out | apply below_alloc | apply pw_below_drewN | apply below_drew1) | exact HB.out)) hb); clear HO109; clear HB; have HO109 := n0_; have HO114 := n1_; have HB := n2_; clear n0_ n1_ n2_; (try clear hb); (try clear hb2); (try clear hk); (try clear hi); (try clear ho0)))
                  (try simp only [Act.put, List.setIfInBounds_toArray, List.set_cons_zero, List.set_cons_succ])
                  go_cut [62] (fun v62 wc => ∃ (kq : Nat) (x62_13 : Bool), v62 = .bool x62_13 ∧ Aside0 (instarlaw05_RowPicks.j2 kq l0 l1 x5_2 t106 x62_13 = some r) ∧ Aside0 (kq ≤ k2) ∧ Aside0 (Kd.R k35 35 wc w.heap.size (fun _ => True) v108 t106) ∧ Aside0 (Below w.heap.size w wc))
                  case first =>
                    have H := HC14.out
                    clear HC14
                    replace H := Option.bind_eq_some_iff.mp H
                    obtain ⟨t115, A170, H⟩ := H
                    replace H : (if t115 = true then (instarlaw05_RowPicks.j2 k2 l0 l1 x5_2 t106 (t107 != t112)) else (instarlaw05_RowPicks.j2 k2 l0 l1 x5_2 t106 true)) = some r := H
                    have A17 := Aside0.mk A170
                    clear A170
                    by_cases c18 : t115 = true
                    · subst c18
                      have H1 : (instarlaw05_RowPicks.j2 k2 l0 l1 x5_2 t106 (t107 != t112)) = some r := by rw [if_pos rfl] at H; exact H
                      clear H
                      have H := H1
                      clear H1
                      have H' := Aside0.mk H
                      clear H
                      obtain ⟨Ao19, co19, eo19⟩ := Kd.R_slice HO109.out
                      subst eo19
                      obtain ⟨Ao20, co20, eo20⟩ := Kd.R_slice HO114.out
                      subst eo20
                      go_wp2_with (first | ((with_reducible refine gate_callee (f := 11) rfl ?_); refine goesL_ (some 56) rfl rfl Tryd.func11 (by kernel_rfl) rfl #[.slice Ao19 t106.length co19, .slice Ao20 t111.length co20] rfl (by (try simp only [List.map_toArray, List.map_cons, List.map_nil]); first | done | rfl | (simp only [List.length_drop, List.length_take]; rfl)) ?_; (with_reducible refine (instarref05_Same.calls k2 _ _ t106 _ _ t111 true _ ?side1 ?side2 ?side3 ?side4 A17.out).mono ?_); (case side1 => repeat (first | exact (Kd.R_reads' HO109.out).2.2 | (with_reducible refine Kd.C_alloc ?_ _) | (with_reducible refine Kd.C_drewN ?_ _) | (with_reducible refine Kd.C_drew ?_))); (case side2 => exact (Kd.R_reads' HO109.out).2.1); (case side3 => repeat (first | exact (Kd.R_reads' HO114.out).2.2 | (with_reducible refine Kd.C_alloc ?_ _) | (with_reducible refine Kd.C_drewN ?_ _) | (with_reducible refine Kd.C_drew ?_))); (case side4 => exact (Kd.R_reads' HO114.out).2.1); rintro e w' ⟨rfl, ⟨nd, rfl⟩⟩; refine ⟨_, rfl, ?_⟩))
                      go_meet
                      case rel => exact ⟨_, ((t107 != t112)), (by first | rfl | (simp; done) | (simp [*]; done) | (simp [Go.Proofs.YtinjibbjlcfkaaaDoor.Bs.isEmpty_bne, Go.Proofs.YtinjibbjlcfkaaaDoor.Bs.isEmpty_beq]; done)), H', ⟨by have := HJ2.out; have := HK2.out; first | omega | exact Nat.le_refl _⟩, ⟨by (with_reducible repeat (first | apply Kd.R_alloc | apply Kd.R_drewN | apply Kd.R_drew)); exact Kd.R_mono HO109.out (fun _ hk => trivial)⟩, ⟨by repeat (first | (with_reducible first | exact HB.out | apply below_alloc | apply pw_below_drewN | apply below_drew1) | exact HB.out)⟩⟩
                    · replace c18 := Bool.eq_false_iff.mpr c18
                      subst c18
                      have H1 : (instarlaw05_RowPicks.j2 k2 l0 l1 x5_2 t106 true) = some r := by rw [if_neg (show ¬ (false = true) by decide)] at H; exact H
                      clear H
                      have H := H1
                      clear H1
                      have H' := Aside0.mk H
                      clear H
                      obtain ⟨Ao21, co21, eo21⟩ := Kd.R_slice HO109.out
                      subst eo21
                      obtain ⟨Ao22, co22, eo22⟩ := Kd.R_slice HO114.out
                      subst eo22
                      go_wp2_with (first | ((with_reducible refine gate_callee (f := 11) rfl ?_); refine goesL_ (some 56) rfl rfl Tryd.func11 (by kernel_rfl) rfl #[.slice Ao21 t106.length co21, .slice Ao22 t111.length co22] rfl (by (try simp only [List.map_toArray, List.map_cons, List.map_nil]); first | done | rfl | (simp only [List.length_drop, List.length_take]; rfl)) ?_; (with_reducible refine (instarref05_Same.calls k2 _ _ t106 _ _ t111 false _ ?side1 ?side2 ?side3 ?side4 A17.out).mono ?_); (case side1 => repeat (first | exact (Kd.R_reads' HO109.out).2.2 | (with_reducible refine Kd.C_alloc ?_ _) | (with_reducible refine Kd.C_drewN ?_ _) | (with_reducible refine Kd.C_drew ?_))); (case side2 => exact (Kd.R_reads' HO109.out).2.1); (case side3 => repeat (first | exact (Kd.R_reads' HO114.out).2.2 | (with_reducible refine Kd.C_alloc ?_ _) | (with_reducible refine Kd.C_drewN ?_ _) | (with_reducible refine Kd.C_drew ?_))); (case side4 => exact (Kd.R_reads' HO114.out).2.1); rintro e w' ⟨rfl, ⟨nd, rfl⟩⟩; refine ⟨_, rfl, ?_⟩))
                      go_meet
                      case rel => exact ⟨_, (true), (by first | rfl | (simp; done) | (simp [*]; done) | (simp [Go.Proofs.YtinjibbjlcfkaaaDoor.Bs.isEmpty_bne, Go.Proofs.YtinjibbjlcfkaaaDoor.Bs.isEmpty_beq]; done)), H', ⟨by have := HJ2.out; have := HK2.out; first | omega | exact Nat.le_refl _⟩, ⟨by (with_reducible repeat (first | apply Kd.R_alloc | apply Kd.R_drewN | apply Kd.R_drew)); exact Kd.R_mono HO109.out (fun _ hk => trivial)⟩, ⟨by repeat (first | (with_reducible first | exact HB.out | apply below_alloc | apply pw_below_drewN | apply below_drew1) | exact HB.out)⟩⟩
                  case rest =>
                    clear HC14
                    try clear c1
                    try clear p1
                    try clear q1
                    try clear hx1
                    try clear p2
                    try clear c3
                    try clear c4
                    try clear c4b0
                    try clear c4b1
                    try clear c5
                    try clear c7
                    try clear c8
                    try clear c8b0
                    try clear c9
                    try clear c9b0
                    try clear c10
                    try clear p10
                    try clear q10
                    try clear hx10
                    try clear c11
                    try clear p11
                    try clear q11
                    try clear hx11
                    try clear c18
                    try clear hx102_0
                    try clear hx105_0
                    try clear hx110_0
                    try clear p102
                    try clear p105
                    try clear p110
                    try clear p2
                    try clear q102
                    try clear q105
                    try clear q110
                    obtain ⟨kq, x62_13, rfl, HA, HJ13, HO_7, HB⟩ := hcut
                    cases kq with
                    | zero => exact absurd HA.out (by simp [instarlaw05_RowPicks.j2])
                    | succ kj13 =>
                      have H := HA.out
                      clear HA
                      simp only [instarlaw05_RowPicks.j2] at H
                      by_cases c23 : x62_13 = true
                      · subst c23
                        have H1 : (some false) = some r := by rw [if_pos rfl] at H; exact H
                        clear H
                        have H := H1
                        clear H1
                        exact absurd ((Option.some.inj H).trans hr_.out) (by decide)
                      · replace c23 := Bool.eq_false_iff.mpr c23
                        subst c23
                        have H1 : ((some (([] : List (S35)) : List (S35))).bind fun y116 => (if 0 ≤ x5_2 then (if x5_2 < (l0.length : Int) then (if y116.length + (rd_L4 l0 x5_2).length < 4398046511104 then (instarlaw05_RowPicks.l1 kj13 l0 l1 x5_2 t106 (y116 ++ (rd_L4 l0 x5_2)) 0) else (none)) else (none)) else (none))) = some r := by rw [if_neg (show ¬ (false = true) by decide)] at H; exact H
                        clear H
                        have H := H1
                        clear H1
                        obtain ⟨y116, hy116⟩ : ∃ y_ : List (S35), y_ = (([] : List (S35))) := ⟨_, rfl⟩
                        replace H : (if 0 ≤ x5_2 then (if x5_2 < (l0.length : Int) then (if y116.length + (rd_L4 l0 x5_2).length < 4398046511104 then (instarlaw05_RowPicks.l1 kj13 l0 l1 x5_2 t106 (y116 ++ (rd_L4 l0 x5_2)) 0) else (none)) else (none)) else (none)) = some r := by first | (rw [hy116]; with_reducible exact H) | (have H2_ := (Option.bind_some _ _).symm.trans H; rw [hy116]; with_reducible exact H2_) | (have H2_ := (Option.bind_some _ _).symm.trans H; with_reducible exact H2_) | with_reducible exact H | (rw [hy116]; exact H) | exact H
                        have Ny116 := Aside0.mk hy116
                        clear hy116
                        by_cases c24 : 0 ≤ x5_2
                        · rw [if_pos c24] at H
                          have c24b0 : decide (0 ≤ x5_2) = true := decide_eq_true c24
                          clear c24
                          by_cases c25 : x5_2 < (l0.length : Int)
                          · rw [if_pos c25] at H
                            have c25b0 : decide (x5_2 < (l0.length : Int)) = true := decide_eq_true c25
                            clear c25
                            by_cases c26 : y116.length + (rd_L4 l0 x5_2).length < 4398046511104
                            · rw [if_pos c26] at H
                              have LMc26 := Aside0.mk c26
                              clear c26
                              obtain ⟨y120, hy120⟩ : ∃ y_ : List (S35), y_ = (y116 ++ (rd_L4 l0 x5_2)) := ⟨_, rfl⟩
                              replace H : (instarlaw05_RowPicks.l1 kj13 l0 l1 x5_2 t106 y120 0) = some r := by first | (rw [hy120]; with_reducible exact H) | (have H2_ := (Option.bind_some _ _).symm.trans H; rw [hy120]; with_reducible exact H2_) | (have H2_ := (Option.bind_some _ _).symm.trans H; with_reducible exact H2_) | with_reducible exact H | (rw [hy120]; exact H) | exact H
                              have Ny120 := Aside0.mk hy120
                              clear hy120
                              have H' := Aside0.mk H
                              clear H
                              go_wp2_with (first | ((with_reducible refine gate_dst (N := 63) rfl ?_); (try (refine gate_guard (by rfl) ?_; dsimp only)); refine Kd.R_lit k35 _ 35 ?hg (N := 63) ?hd (xs := ([] : List (S35))) (inner := []) (ok := fun _ => True) (okp := fun _ => True) ?hr ?hp (fun _ hk => hk) trivial (Below.refl _ _) (Nat.le_refl _) (by simp) ?_; (case hd => rfl); (case hg => rfl); (case hr => first | (go_simp; done) | (go_simp; rfl)); (case hp => exact (Reps.none _ _)); intro v117 w27 ho28 hb hg_ hnew_; clear hg_ hnew_; (first | rw [← Ny116.out] at ho28 | (simp only [Int.reduceToNat] at ho28; rw [← Ny116.out] at ho28)); have n0_ := Aside0.mk (Kd.R_elder' (by (with_reducible repeat (first | apply Kd.R_alloc | apply Kd.R_drewN | apply Kd.R_drew)); exact HO_7.out) (Kd.R_base ho28) hb); have n1_ := Aside0.mk (Kd.R_lower (Kd.R_new' ho28 (Kd.R_lt (by (with_reducible repeat (first | apply Kd.R_alloc | apply Kd.R_drewN | apply Kd.R_drew)); exact HO_7.out))) (below_size (by repeat (first | (with_reducible first | exact HB.out | apply below_alloc | apply pw_below_drewN | apply below_drew1) | exact HB.out)))); have n2_ := Aside0.mk (below_step (by repeat (first | (with_reducible first | exact HB.out | apply below_alloc | apply pw_below_drewN | apply below_drew1) | exact HB.out)) hb); clear HO_7; clear HB; have HO_7 := n0_; have HO118 := n1_; have HB := n2_; clear n0_ n1_ n2_; clear hb ho28; have p119 : 0 ≤ (x5_2 : Int) := of_decide_eq_true (by first | (with_reducible assumption) | assumption); have q119 : x5_2 < (l0.length : Int) := of_decide_eq_true (by first | (with_reducible assumption) | assumption); obtain ⟨ad119, A119_0, c119_0, e119, hx119_0, hl119_0, hi119_0⟩ := at_L4 HR0.out x5_2 p119 q119; obtain rfl : ad102 = ad119 := (by injection e119); replace hx119_0 := (HB.out.cell (World.block_lt_of_cell? w _ hx119_0)).trans hx119_0; have HR119_0 := Aside0.mk hi119_0; have HC119_0 := Aside0.mk hl119_0; clear hi119_0 hl119_0; replace p119 := eq_true p119; replace q119 := eq_true q119) | ((with_reducible refine gate_builtin (b := .append) (xs := #[.tmp 63, .tmp 67]) rfl ?_); (try (refine gate_guard (by rfl) ?_; dsimp only)); at_builtin; refine Kd.R_append_rows k35 (w0 := w) w.heap.size rfl (.tmp 63) (.tmp 67) 27 35 (.agg #[(.int .i64 0), (.int .i64 0), (.string ⟨#[]⟩)]) 32 rfl Tryd.underlying27 info35 rfl (by decide) (by omega) v117 y116 (rd_L4 l0 x5_2) _ _ _ (fun k_ => some k_ ≠ (v108 : Value).ownBlock) (fun _ => False) rfl rfl ?aO ?aR (fun _ _ h => h) (fun _ h => h.elim) ?aF ?aB ?aS ?aL ?_; (case aR => repeat (first | exact (Kd.C_below HR119_0.out HB.out) | (with_reducible refine Kd.C_alloc ?_ _) | (with_reducible refine Kd.C_drewN ?_ _) | (with_reducible refine Kd.C_drew ?_))); (case aB => exact (by repeat (first | (with_reducible first | exact HB.out | apply below_alloc | apply pw_below_drewN | apply below_drew1) | exact HB.out))); (case aF => exact (fun k_ hk => Kd.fresh' (Kd.R_lt (by (with_reducible repeat (first | apply Kd.R_alloc | apply Kd.R_drewN | apply Kd.R_drew)); exact HO_7.out)) k_ hk)); (case aO => exact (by (with_reducible repeat (first | apply Kd.R_alloc | apply Kd.R_drewN | apply Kd.R_drew)); exact Kd.R_mono HO118.out (fun _ hk => hk.2))); (case aS => exact (below_size (by repeat (first | (with_reducible first | exact HB.out | apply below_alloc | apply pw_below_drewN | apply below_drew1) | exact HB.out)))); (case aL => have := LMc26.out; omega); intro v121 w29 ho hb hg hat; rw [← Ny120.out] at ho; have n0_ := Aside0.mk (Kd.R_after (ok := (fun _ => True)) (by (with_reducible repeat (first | apply Kd.R_alloc | apply Kd.R_drewN | apply Kd.R_drew)); exact HO_7.out) hg hat); have n1_ := Aside0.mk (hb); have n2_ := Aside0.mk (ho); clear HO_7; clear HB; clear HO118; have HO_7 := n0_; have HB := n1_; have HO122 := n2_; clear n0_ n1_ n2_; clear ho hb hg hat))
                              go_loopg [12] kj13 (fun kq v12 w' => ∃ (x7_4 : List (S35)) (x12_4 : Int), v12 = .int .i64 x12_4 ∧ Aside0 (instarlaw05_RowPicks.l1 kq l0 l1 x5_2 x7_4 y120 x12_4 = some r) ∧ Aside0 (kq ≤ kj13) ∧ Aside0 (Kd.R k35 35 w' w.heap.size (fun k_ => some k_ ≠ (v121 : Value).ownBlock) v108 x7_4) ∧ Aside0 (Kd.R k35 35 w' w.heap.size (fun k_ => some k_ ≠ (v108 : Value).ownBlock) v121 y120) ∧ Aside0 (Below w.heap.size w w'))
                              case atStart => exact ⟨(t106), (0), (by first | rfl | (simp; done) | (simp [*]; done) | (simp [Go.Proofs.YtinjibbjlcfkaaaDoor.Bs.isEmpty_bne, Go.Proofs.YtinjibbjlcfkaaaDoor.Bs.isEmpty_beq]; done)), H', ⟨Nat.le_refl _⟩, ⟨by (with_reducible repeat (first | apply Kd.R_alloc | apply Kd.R_drewN | apply Kd.R_drew)); exact Kd.R_mono HO_7.out (fun _ hk => hk.2)⟩, ⟨by (with_reducible repeat (first | apply Kd.R_alloc | apply Kd.R_drewN | apply Kd.R_drew)); exact HO122.out⟩, ⟨by repeat (first | (with_reducible first | exact HB.out | apply below_alloc | apply pw_below_drewN | apply below_drew1) | exact HB.out)⟩⟩
                              case round =>
                                clear H'
                                try clear c1
                                try clear p1
                                try clear q1
                                try clear hx1
                                try clear c2
                                try clear p2
                                try clear c3
                                try clear c4
                                try clear c4b0
                                try clear c4b1
                                try clear c5
                                try clear c7
                                try clear c8
                                try clear c8b0
                                try clear c9
                                try clear c9b0
                                try clear c10
                                try clear p10
                                try clear q10
                                try clear hx10
                                try clear c11
                                try clear p11
                                try clear q11
                                try clear hx11
                                try clear c18
                                try clear c23
                                try clear c24
                                try clear c24b0
                                try clear c25
                                try clear c25b0
                                try clear c26
                                try clear hx102_0
                                try clear hx105_0
                                try clear hx110_0
                                try clear hx119_0
                                try clear p1
                                try clear p10
                                try clear p102
                                try clear p105
                                try clear p11
                                try clear p110
                                try clear p119
                                try clear p2
                                try clear q1
                                try clear q10
                                try clear q102
                                try clear q105
                                try clear q11
                                try clear q110
                                try clear q119
                                obtain ⟨x7_4, x12_4, rfl, HA, HK4, HO_7, HO_11, HB⟩ := hrel
                                cases gk with
                                | zero => exact absurd HA.out (by simp [instarlaw05_RowPicks.l1])
                                | succ k4 =>
                                  have H := HA.out
                                  clear HA
                                  simp only [instarlaw05_RowPicks.l1] at H
                                  by_cases c30 : x12_4 < (x7_4.length : Int)
                                  · rw [if_pos c30] at H
                                    have c30b0 : decide (x12_4 < (x7_4.length : Int)) = true := decide_eq_true c30
                                    clear c30
                                    by_cases c31 : 0 ≤ x12_4
                                    · rw [if_pos c31] at H
                                      have c31b0 : decide (0 ≤ x12_4) = true := decide_eq_true c31
                                      clear c31
                                      obtain ⟨y123, hy123⟩ : ∃ y_ : List (S35), y_ = (x7_4.set (x12_4 : Int).toNat (⟨4, 0, (⟨#[109, 105, 110, 101]⟩ : ByteArray)⟩ : S35)) := ⟨_, rfl⟩
                                      replace H : (instarlaw05_RowPicks.l1 k4 l0 l1 x5_2 y123 y120 (wrap64 (x12_4 + 1))) = some r := by first | (rw [hy123]; with_reducible exact H) | (have H2_ := (Option.bind_some _ _).symm.trans H; rw [hy123]; with_reducible exact H2_) | (have H2_ := (Option.bind_some _ _).symm.trans H; with_reducible exact H2_) | with_reducible exact H | (rw [hy123]; exact H) | exact H
                                      have Ny123 := Aside0.mk hy123
                                      clear hy123
                                      have H' := Aside0.mk H
                                      clear H
                                      obtain ⟨Ao33, co33, eo33⟩ := Kd.R_slice HO_7.out
                                      subst eo33
                                      have p32 : 0 ≤ (x12_4 : Int) := of_decide_eq_true (by first | (with_reducible assumption) | assumption)
                                      have q32 : (x12_4 : Int) < ((x7_4.length : Int) : Int) := of_decide_eq_true (by first | (with_reducible assumption) | assumption)
                                      obtain ⟨go32, co32, eo32, gb32, gl32, cl32, HG32⟩ := Kd.R_form HO_7.out (by omega)
                                      (first | cases eo32 | (injection eo32 with ea_ en_ ec_; (first | subst ea_ | (injection ea_ with ea_; subst ea_)); subst ec_; clear en_))
                                      have GB32 := Aside0.mk gb32
                                      have GG32 := Aside0.mk HG32
                                      clear gb32 gl32 HG32
                                      obtain ⟨ce32, hcl32, hM32, hcc32, hfr32⟩ := Kd.R_elem HO_7.out z35 (x12_4 : Int) p32 q32
                                      obtain rfl := k35_openM hM32
                                      have hx32_0 : wr.cell? ⟨go32, (x12_4 : Int).toNat * 3, none⟩ = some (.int .i64 ((rd_T35 x7_4 x12_4).f0)) := hcc32 0 _ rfl
                                      have hx32_1 : wr.cell? ⟨go32, (x12_4 : Int).toNat * 3 + 1, none⟩ = some (.int .i64 ((rd_T35 x7_4 x12_4).f1)) := hcc32 1 _ rfl
                                      have hx32_2 : wr.cell? ⟨go32, (x12_4 : Int).toNat * 3 + 2, none⟩ = some (.string ((rd_T35 x7_4 x12_4).f2)) := hcc32 2 _ rfl
                                      have hf32_0 : wr.frozen? ⟨go32, (x12_4 : Int).toNat * 3, none⟩ = false := hfr32 0
                                      have hf32_1 : wr.frozen? ⟨go32, (x12_4 : Int).toNat * 3 + 1, none⟩ = false := hfr32 1
                                      have hf32_2 : wr.frozen? ⟨go32, (x12_4 : Int).toNat * 3 + 2, none⟩ = false := hfr32 2
                                      clear hcl32 hcc32 hfr32 hM32
                                      replace p32 := eq_true p32
                                      replace q32 := eq_true q32
                                      have HX34 := Aside0.mk (show Kd.R k35 35 wr w.heap.size (fun k_ => some k_ ≠ (v121 : Value).ownBlock) (.slice (some ⟨go32, 0, none⟩) x7_4.length co33) x7_4 from (by (with_reducible repeat (first | apply Kd.R_alloc | apply Kd.R_drewN | apply Kd.R_drew)); exact HO_7.out))
                                      obtain ⟨ce34, hcl34, hM34, hcc34, hfr34⟩ := Kd.R_elem HX34.out z35 (x12_4 : Int) (of_decide_eq_true (by first | (with_reducible assumption) | assumption)) (by have h_ : (x12_4 : Int) < ((x7_4.length : Int) : Int) := of_decide_eq_true (by first | (with_reducible assumption) | assumption); first | exact h_ | (have e_ := (Kd.R_reads' HO_7.out).1; omega) | simpa using h_)
                                      obtain rfl := k35_openM hM34
                                      have HP34 := Kd.R_seg HX34.out (x12_4 : Int) (of_decide_eq_true (by first | (with_reducible assumption) | assumption)) (by have h_ : (x12_4 : Int) < ((x7_4.length : Int) : Int) := of_decide_eq_true (by first | (with_reducible assumption) | assumption); first | exact h_ | (have e_ := (Kd.R_reads' HO_7.out).1; omega) | simpa using h_) (seg := [.int .i64 4, .int .i64 0, .string (⟨#[109, 105, 110, 101]⟩ : ByteArray)]) (j := 0) hcl34 hcc34 (show 3 ≤ 3 from by decide) (x' := (⟨4, 0, (⟨#[109, 105, 110, 101]⟩ : ByteArray)⟩ : S35)) (k35_mkM _ _ _ (⟨4, 0, (⟨#[109, 105, 110, 101]⟩ : ByteArray)⟩ : S35) ) (fun _ hk => hk)
                                      have hx34_0 := hcc34 0 _ rfl
                                      (try simp only [show (k35).sz = 3 from rfl, Nat.mul_one, Nat.add_zero] at hx34_0)
                                      have hf34_0 := hfr34 0
                                      (try simp only [show (k35).sz = 3 from rfl, Nat.mul_one, Nat.add_zero] at hf34_0)
                                      have hx34_1 := hcc34 1 _ rfl
                                      (try simp only [show (k35).sz = 3 from rfl, Nat.mul_one, Nat.add_zero] at hx34_1)
                                      have hf34_1 := hfr34 1
                                      (try simp only [show (k35).sz = 3 from rfl, Nat.mul_one, Nat.add_zero] at hf34_1)
                                      have hx34_2 := hcc34 2 _ rfl
                                      (try simp only [show (k35).sz = 3 from rfl, Nat.mul_one, Nat.add_zero] at hx34_2)
                                      have hf34_2 := hfr34 2
                                      (try simp only [show (k35).sz = 3 from rfl, Nat.mul_one, Nat.add_zero] at hf34_2)
                                      clear hcl34 hcc34 hfr34 hM34
                                      go_wp2_with (first | ((with_reducible refine gate_store (t := 35) (p := 78) rfl ?_); refine store_event (t := 35) (p := 78) (v := ?vo_w35) (w1 := (((wr.setCell ⟨go32, (x12_4 : Int).toNat * 3, none⟩ (.int .i64 4)).setCell ⟨go32, (x12_4 : Int).toNat * 3 + 1, none⟩ (.int .i64 0)).setCell ⟨go32, (x12_4 : Int).toNat * 3 + 2, none⟩ (.string (⟨#[109, 105, 110, 101]⟩ : ByteArray)))) ?hg ?ho ?hn ?hr ?_; (case ho => rfl); (case hg => rfl); (case hn => rfl); (case hr => first | (go_simp; done) | (go_simp; rfl)); intro w35 hw; have hg : wr.grownBy w35 (some go32) := (by rw [hw]; exact HP34.2); have hp_ : Kd.R k35 35 w35 w.heap.size (fun k_ => some k_ ≠ (v121 : Value).ownBlock) (.slice (some ⟨go32, 0, none⟩) x7_4.length co33) y123 := (by rw [hw, Ny123.out]; exact HP34.1); clear HP34; have n0_ := Aside0.mk (hp_); have n1_ := Aside0.mk (Kd.R_after (v := (.slice (some ⟨go32, 0, none⟩) x7_4.length co33)) (v1 := (.slice (some ⟨go32, 0, none⟩) x7_4.length co33)) (ok := (fun _ => True)) (by (with_reducible repeat (first | apply Kd.R_alloc | apply Kd.R_drewN | apply Kd.R_drew)); exact Kd.R_mono HO_11.out (fun _ hk => ⟨trivial, hk⟩)) hg (.inl rfl)); have n2_ := Aside0.mk ((by rw [hw]; exact below_set (below_set (below_set (HB.out) GB32.out) GB32.out) GB32.out : Below w.heap.size w w35)); clear HO_7; clear HO_11; clear HB; have HO_7 := n0_; have HO_11 := n1_; have HB := n2_; clear n0_ n1_ n2_; clear hg hw hp_))
                                      go_roundg k4
                                      case measure => have := HJ2.out; have := HK2.out; have := HJ13.out; have := HK4.out; omega
                                      case rel => exact ⟨(y123), (wrap64 (x12_4 + 1)), (by first | rfl | (simp; done) | (simp [*]; done) | (simp [Go.Proofs.YtinjibbjlcfkaaaDoor.Bs.isEmpty_bne, Go.Proofs.YtinjibbjlcfkaaaDoor.Bs.isEmpty_beq]; done)), H', ⟨by have := HJ2.out; have := HK2.out; have := HJ13.out; have := HK4.out; omega⟩, ⟨by (with_reducible repeat (first | apply Kd.R_alloc | apply Kd.R_drewN | apply Kd.R_drew)); exact HO_7.out⟩, ⟨by (with_reducible repeat (first | apply Kd.R_alloc | apply Kd.R_drewN | apply Kd.R_drew)); exact Kd.R_mono HO_11.out (fun _ hk => hk.2)⟩, ⟨by repeat (first | (with_reducible first | exact HB.out | apply below_alloc | apply pw_below_drewN | apply below_drew1) | exact HB.out)⟩⟩
                                    · rw [if_neg c31] at H
                                      exact absurd H (by simp)
                                  · rw [if_neg c30] at H
                                    have c30b0 : decide (x12_4 < (x7_4.length : Int)) = false := decide_eq_false c30
                                    clear c30
                                    by_cases c36 : 0 ≤ x5_2
                                    · rw [if_pos c36] at H
                                      have c36b0 : decide (0 ≤ x5_2) = true := decide_eq_true c36
                                      clear c36
                                      by_cases c37 : x5_2 < (l0.length : Int)
                                      · rw [if_pos c37] at H
                                        have c37b0 : decide (x5_2 < (l0.length : Int)) = true := decide_eq_true c37
                                        clear c37
                                        replace H := Option.bind_eq_some_iff.mp H
                                        obtain ⟨t125, A380, H⟩ := H
                                        replace H : (if t125 = true then (instarlaw05_RowPicks.l0 k4 l0 l1 (wrap64 (x5_2 + 1))) else (some false)) = some r := H
                                        have A38 := Aside0.mk A380
                                        clear A380
                                        by_cases c39 : t125 = true
                                        · subst c39
                                          have H1 : (instarlaw05_RowPicks.l0 k4 l0 l1 (wrap64 (x5_2 + 1))) = some r := by rw [if_pos rfl] at H; exact H
                                          clear H
                                          have H := H1
                                          clear H1
                                          have H' := Aside0.mk H
                                          clear H
                                          obtain ⟨Ao40, co40, eo40⟩ := Kd.R_slice HO_7.out
                                          subst eo40
                                          have p124 : 0 ≤ (x5_2 : Int) := of_decide_eq_true (by first | (with_reducible assumption) | assumption)
                                          have q124 : x5_2 < (l0.length : Int) := of_decide_eq_true (by first | (with_reducible assumption) | assumption)
                                          obtain ⟨ad124, A124_0, c124_0, e124, hx124_0, hl124_0, hi124_0⟩ := at_L4 HR0.out x5_2 p124 q124
                                          obtain rfl : ad102 = ad124 := (by injection e124)
                                          replace hx124_0 := (HB.out.cell (World.block_lt_of_cell? w _ hx124_0)).trans hx124_0
                                          have HR124_0 := Aside0.mk hi124_0
                                          have HC124_0 := Aside0.mk hl124_0
                                          clear hi124_0 hl124_0
                                          replace p124 := eq_true p124
                                          replace q124 := eq_true q124
                                          obtain ⟨Ao41, co41, eo41⟩ := Kd.R_slice HO_11.out
                                          subst eo41
                                          go_wp2_with (first | ((with_reducible refine gate_callee (f := 11) rfl ?_); refine goesL_ (some 84) rfl rfl Tryd.func11 (by kernel_rfl) rfl #[.slice Ao41 y120.length co41, .slice A124_0 (rd_L4 l0 x5_2).length c124_0] rfl (by (try simp only [List.map_toArray, List.map_cons, List.map_nil]); first | done | rfl | (simp only [List.length_drop, List.length_take]; rfl)) ?_; (with_reducible refine (instarref05_Same.calls k4 _ _ y120 _ _ (rd_L4 l0 x5_2) true _ ?side1 ?side2 ?side3 ?side4 A38.out).mono ?_); (case side1 => repeat (first | exact (Kd.R_reads' HO_11.out).2.2 | (with_reducible refine Kd.C_alloc ?_ _) | (with_reducible refine Kd.C_drewN ?_ _) | (with_reducible refine Kd.C_drew ?_))); (case side2 => exact (Kd.R_reads' HO_11.out).2.1); (case side3 => repeat (first | exact (Kd.C_below HR124_0.out HB.out) | (with_reducible refine Kd.C_alloc ?_ _) | (with_reducible refine Kd.C_drewN ?_ _) | (with_reducible refine Kd.C_drew ?_))); (case side4 => exact HC124_0.out); rintro e w' ⟨rfl, ⟨nd, rfl⟩⟩; refine ⟨_, rfl, ?_⟩))
                                          go_roundg k4
                                          case measure => have := HJ2.out; have := HK2.out; have := HJ13.out; have := HK4.out; omega
                                          case rel => exact ⟨(wrap64 (x5_2 + 1)), (by first | rfl | (simp; done) | (simp [*]; done) | (simp [Go.Proofs.YtinjibbjlcfkaaaDoor.Bs.isEmpty_bne, Go.Proofs.YtinjibbjlcfkaaaDoor.Bs.isEmpty_beq]; done)), H', ⟨by have := HJ2.out; have := HK2.out; have := HJ13.out; have := HK4.out; omega⟩, ⟨by repeat (first | (with_reducible first | exact HB.out | apply below_alloc | apply pw_below_drewN | apply below_drew1) | exact HB.out)⟩⟩
                                        · replace c39 := Bool.eq_false_iff.mpr c39
                                          subst c39
                                          have H1 : (some false) = some r := by rw [if_neg (show ¬ (false = true) by decide)] at H; exact H
                                          clear H
                                          have H := H1
                                          clear H1
                                          exact absurd ((Option.some.inj H).trans hr_.out) (by decide)
                                      · rw [if_neg c37] at H
                                        exact absurd H (by simp)
                                    · rw [if_neg c36] at H
                                      exact absurd H (by simp)
                            · rw [if_neg c26] at H
                              exact absurd H (by simp)
                          · rw [if_neg c25] at H
                            exact absurd H (by simp)
                        · rw [if_neg c24] at H
                          exact absurd H (by simp)
                · replace c11 := Bool.eq_false_iff.mpr c11
                  subst c11
                  have H1 : ((instarlaw05_alive.f k2).bind fun t104 => (some t104)) = some r := by rw [if_neg (show ¬ (false = true) by decide)] at H; exact H
                  clear H
                  have H := H1
                  clear H1
                  replace H := Option.bind_eq_some_iff.mp H
                  obtain ⟨t104, A420, H⟩ := H
                  replace H : (some t104) = some r := H
                  have A42 := Aside0.mk A420
                  clear A420
                  obtain rfl := Option.some.inj H
                  have p102 : 0 ≤ (x5_2 : Int) := of_decide_eq_true (by first | (with_reducible assumption) | assumption)
                  have q102 : x5_2 < (l0.length : Int) := of_decide_eq_true (by first | (with_reducible assumption) | assumption)
                  obtain ⟨ad102, A102_0, c102_0, e102, hx102_0, hl102_0, hi102_0⟩ := at_L4 HR0.out x5_2 p102 q102
                  cases e102
                  replace hx102_0 := (HB.out.cell (World.block_lt_of_cell? w _ hx102_0)).trans hx102_0
                  have HR102_0 := Aside0.mk hi102_0
                  have HC102_0 := Aside0.mk hl102_0
                  clear hi102_0 hl102_0
                  replace p102 := eq_true p102
                  replace q102 := eq_true q102
                  go_wp2_with (first | ((with_reducible refine gate_callee (f := 8) rfl ?_); refine goesL_ (some 32) rfl rfl Tryd.func8 (by kernel_rfl) rfl #[.slice A102_0 (rd_L4 l0 x5_2).length c102_0] rfl (by (try simp only [List.map_toArray, List.map_cons, List.map_nil]); first | done | rfl | (simp only [List.length_drop, List.length_take]; rfl)) ?_; (with_reducible refine (instarlaw05_Small.calls k2 _ _ (rd_L4 l0 x5_2) false _ ?side1 ?side2 A10.out).mono ?_); (case side1 => repeat (first | exact (Kd.C_below HR102_0.out HB.out) | (with_reducible refine Kd.C_alloc ?_ _) | (with_reducible refine Kd.C_drewN ?_ _) | (with_reducible refine Kd.C_drew ?_))); (case side2 => exact HC102_0.out); rintro e w' ⟨rfl, ⟨nd, rfl⟩⟩; refine ⟨_, rfl, ?_⟩) | ((with_reducible refine gate_callee (f := 7) rfl ?_); refine goesL_ (some 35) rfl rfl Tryd.func7 (by kernel_rfl) rfl #[] rfl (by (try simp only [List.map_toArray, List.map_cons, List.map_nil]); first | done | rfl | (simp only [List.length_drop, List.length_take]; rfl)) ?_; (with_reducible refine (instarlaw05_alive.calls k2  t104 _ ?side1 A42.out).mono ?_); (case side1 => first | exact hG | exact Go.Proofs.YtinjibbjlcfkaaaDoor.Bs.Gl.below hG (by repeat (first | (with_reducible first | exact HB.out | apply below_alloc | apply pw_below_drewN | apply below_drew1) | exact HB.out)) | (repeat (first | exact hG | refine Go.Proofs.YtinjibbjlcfkaaaDoor.Bs.Gl.drewN ?_ _))); rintro e w43 ⟨rfl, hb⟩; refine ⟨_, rfl, ?_⟩; have n0_ := Aside0.mk (below_step (by repeat (first | (with_reducible first | exact HB.out | apply below_alloc | apply pw_below_drewN | apply below_drew1) | exact HB.out)) hb); clear HB; have HB := n0_; clear n0_; (try clear hb); (try clear hb2); (try clear hk); (try clear hi)))
                  go_ret
                  exact ⟨by first | rfl | (simp [errW_none, errW_some] <;> rfl) | (simp [*, errW_none, errW_some] <;> rfl), by repeat (first | (with_reducible first | exact HB.out | apply below_alloc | apply pw_below_drewN | apply below_drew1) | exact HB.out)⟩
              · rw [if_neg c9] at H
                exact absurd H (by simp)
            · rw [if_neg c8] at H
              have c8b0 : decide (x5_2 < (l0.length : Int)) = false := decide_eq_false c8
              clear c8
              replace H := Option.bind_eq_some_iff.mp H
              obtain ⟨t126, A440, H⟩ := H
              replace H : (if t126 = true then ((row_Join.f l0).bind fun t127 => ((instarref05_Join.f k2 l0).bind fun t130 => ((instarref05_Same.f k2 t127 t130).bind fun t133 => (some t133)))) else (some false)) = some r := H
              have A44 := Aside0.mk A440
              clear A440
              by_cases c45 : t126 = true
              · subst c45
                have H1 : ((row_Join.f l0).bind fun t127 => ((instarref05_Join.f k2 l0).bind fun t130 => ((instarref05_Same.f k2 t127 t130).bind fun t133 => (some t133)))) = some r := by rw [if_pos rfl] at H; exact H
                clear H
                have H := H1
                clear H1
                replace H := Option.bind_eq_some_iff.mp H
                obtain ⟨t127, A460, H⟩ := H
                replace H : ((instarref05_Join.f k2 l0).bind fun t130 => ((instarref05_Same.f k2 t127 t130).bind fun t133 => (some t133))) = some r := H
                have A46 := Aside0.mk A460
                clear A460
                replace H := Option.bind_eq_some_iff.mp H
                obtain ⟨t130, A470, H⟩ := H
                replace H : ((instarref05_Same.f k2 t127 t130).bind fun t133 => (some t133)) = some r := H
                have A47 := Aside0.mk A470
                clear A470
                replace H := Option.bind_eq_some_iff.mp H
                obtain ⟨t133, A480, H⟩ := H
                replace H : (some t133) = some r := H
                have A48 := Aside0.mk A480
                clear A480
                obtain rfl := Option.some.inj H
                go_wp2_with (first | ((with_reducible refine gate_callee (f := 7) rfl ?_); refine goesL_ (some 86) rfl rfl Tryd.func7 (by kernel_rfl) rfl #[] rfl (by (try simp only [List.map_toArray, List.map_cons, List.map_nil]); first | done | rfl | (simp only [List.length_drop, List.length_take]; rfl)) ?_; (with_reducible refine (instarlaw05_alive.calls k2  true _ ?side1 A44.out).mono ?_); (case side1 => first | exact hG | exact Go.Proofs.YtinjibbjlcfkaaaDoor.Bs.Gl.below hG (by repeat (first | (with_reducible first | exact HB.out | apply below_alloc | apply pw_below_drewN | apply below_drew1) | exact HB.out)) | (repeat (first | exact hG | refine Go.Proofs.YtinjibbjlcfkaaaDoor.Bs.Gl.drewN ?_ _))); rintro e w49 ⟨rfl, hb⟩; refine ⟨_, rfl, ?_⟩; have n0_ := Aside0.mk (below_step (by repeat (first | (with_reducible first | exact HB.out | apply below_alloc | apply pw_below_drewN | apply below_drew1) | exact HB.out)) hb); clear HB; have HB := n0_; clear n0_; (try clear hb); (try clear hb2); (try clear hk); (try clear hi)) | (go_at_call 12; (with_reducible refine (row_Join.calls _ _ l0 t127 _ ?side1 ?side2 A46.out).mono ?_); (case side1 => repeat (first | exact (Kd.C_below HR0.out HB.out) | (with_reducible refine Kd.C_alloc ?_ _) | (with_reducible refine Kd.C_drewN ?_ _) | (with_reducible refine Kd.C_drew ?_))); (case side2 => exact HC0.out); rintro e w50 ⟨v128, rfl, ho0, hb⟩; have n0_ := Aside0.mk (Kd.R_lower ho0 (below_size (by repeat (first | (with_reducible first | exact HB.out | apply below_alloc | apply pw_below_drewN | apply below_drew1) | exact HB.out)))); have n1_ := Aside0.mk (below_step (by repeat (first | (with_reducible first | exact HB.out | apply below_alloc | apply pw_below_drewN | apply below_drew1) | exact HB.out)) hb); clear HB; have HO129 := n0_; have HB := n1_; clear n0_ n1_; (try clear hb); (try clear hb2); (try clear hk); (try clear hi); (try clear ho0)) | (go_at_call 13; (with_reducible refine (instarref05_Join.calls k2 _ _ l0 t130 _ ?side1 ?side2 A47.out).mono ?_); (case side1 => repeat (first | exact (Kd.C_below HR0.out HB.out) | (with_reducible refine Kd.C_alloc ?_ _) | (with_reducible refine Kd.C_drewN ?_ _) | (with_reducible refine Kd.C_drew ?_))); (case side2 => exact HC0.out); rintro e w51 ⟨v131, rfl, ho0, hb⟩; have n0_ := Aside0.mk (Kd.R_elder' (by (with_reducible repeat (first | apply Kd.R_alloc | apply Kd.R_drewN | apply Kd.R_drew)); exact HO129.out) (Kd.R_base ho0) hb); have n1_ := Aside0.mk (Kd.R_lower (Kd.R_new' ho0 (Kd.R_lt (by (with_reducible repeat (first | apply Kd.R_alloc | apply Kd.R_drewN | apply Kd.R_drew)); exact HO129.out))) (below_size (by repeat (first | (with_reducible first | exact HB.out | apply below_alloc | apply pw_below_drewN | apply below_drew1) | exact HB.out)))); have n2_ := Aside0.mk (below_step (by repeat (first | (with_reducible first | exact HB.out | apply below_alloc | apply pw_below_drewN | apply below_drew1) | exact HB.out)) hb); clear HO129; clear HB; have HO129 := n0_; have HO132 := n1_; have HB := n2_; clear n0_ n1_ n2_; (try clear hb); (try clear hb2); (try clear hk); (try clear hi); (try clear ho0); obtain ⟨Ao52, co52, eo52⟩ := Kd.R_slice HO129.out; subst eo52; obtain ⟨Ao53, co53, eo53⟩ := Kd.R_slice HO132.out; subst eo53) | (go_at_call 11; (with_reducible refine (instarref05_Same.calls k2 _ _ t127 _ _ t130 t133 _ ?side1 ?side2 ?side3 ?side4 A48.out).mono ?_); (case side1 => repeat (first | exact (Kd.R_reads' HO129.out).2.2 | (with_reducible refine Kd.C_alloc ?_ _) | (with_reducible refine Kd.C_drewN ?_ _) | (with_reducible refine Kd.C_drew ?_))); (case side2 => exact (Kd.R_reads' HO129.out).2.1); (case side3 => repeat (first | exact (Kd.R_reads' HO132.out).2.2 | (with_reducible refine Kd.C_alloc ?_ _) | (with_reducible refine Kd.C_drewN ?_ _) | (with_reducible refine Kd.C_drew ?_))); (case side4 => exact (Kd.R_reads' HO132.out).2.1); rintro e w' ⟨rfl, ⟨nd, rfl⟩⟩))
                go_ret
                exact ⟨by first | rfl | (simp [errW_none, errW_some] <;> rfl) | (simp [*, errW_none, errW_some] <;> rfl), by repeat (first | (with_reducible first | exact HB.out | apply below_alloc | apply pw_below_drewN | apply below_drew1) | exact HB.out)⟩
              · replace c45 := Bool.eq_false_iff.mpr c45
                subst c45
                have H1 : (some false) = some r := by rw [if_neg (show ¬ (false = true) by decide)] at H; exact H
                clear H
                have H := H1
                clear H1
                exact absurd ((Option.some.inj H).trans hr_.out) (by decide)

end Go.Proofs.YtinjibbjlcfkaaaDoor.PC
