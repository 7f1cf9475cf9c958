-- printed by drv.py (this session) by way of the kit's print.py, and given texts
import Derived.Test.YtkhhhhdebdfonaaDoorPAx0
import Derived.Test.YtkhhhhdebdfonaaDoorPAx4
import Derived.Test.YtkhhhhdebdfonaaDoorPAx7
namespace Go.Proofs.YtkhhhhdebdfonaaDoor.PA
open Go.RowKit Go.Proofs.YtkhhhhdebdfonaaDoorW.PrintWords Go.Proofs.YtkhhhhdebdfonaaDoorW.PrintLast Go.Proofs.YtkhhhhdebdfonaaDoorW.PrintMore
attribute [local go_sem] max2_int min2_int max_two min_two max_three min_three max_four min_four   -- for this text's walks alone
attribute [local go_sem high] Go.Proofs.YtkhhhhdebdfonaaDoor.Bs.gtr_bl Go.Proofs.YtkhhhhdebdfonaaDoor.Bs.leq_bl
set_option linter.unusedVariables false
set_option linter.unusedSimpArgs false

/-! ### instarlaw03_ValueNames: function 4 -/
def instarlaw03_ValueNames.j0 : Nat → Int → Int → Bool → Bool → Option (Bool)
  | 0, _, _, _, _ => none
  | k + 1, x0, x5, x6, x7 => (value_Name.f x0).bind fun t105 => ((value_Named.f k t105).bind fun bt106 => ((instarref03_Column.f x0).bind fun t108 => ((instarlaw03_alive.f k).bind fun t109 => (if t109 = true then ((value_Name.f x0).bind fun t110 => ((instarref03_Name.f x0).bind fun t111 => (if t110.toList = t111.toList then (if (x6 == x7) = true then (if x6 = true then (if (bt106.2 == t108) = true then (if bt106.2 = true then (some (bt106.1 == x0)) else (some true)) else (some false)) else (if x5 = 0 then (if (bt106.2 == t108) = true then (if bt106.2 = true then (some (bt106.1 == x0)) else (some true)) else (some false)) else (some false))) else (some false)) else (some false)))) else (some false)))))
def instarlaw03_ValueNames.f (k : Nat) (a0 : Int) (a1 : ByteArray) : Option (Bool) := (value_Named.f k a1).bind fun bt101 => (if bt101.1 = 0 then (instarlaw03_ValueNames.j0 k a0 bt101.1 bt101.2 false) else ((instarref03_Name.f bt101.1).bind fun t103 => (if t103.toList = a1.toList then ((instarref03_Column.f bt101.1).bind fun t104 => (instarlaw03_ValueNames.j0 k a0 bt101.1 bt101.2 t104)) else (instarlaw03_ValueNames.j0 k a0 bt101.1 bt101.2 false))))
theorem instarlaw03_ValueNames.mono_l : ∀ k, (∀ y0 y1 y2 y3, LeO (instarlaw03_ValueNames.j0 k y0 y1 y2 y3) (instarlaw03_ValueNames.j0 (k + 1) y0 y1 y2 y3))
  | 0 => fun _ _ _ _ r h => by simp [instarlaw03_ValueNames.j0] at h
  | k + 1 => by
    have ih0 := instarlaw03_ValueNames.mono_l k
    · intro y0 y1 y2 y3
      unfold instarlaw03_ValueNames.j0
      repeat' first
      | (with_reducible exact ih0 _ _ _ _)
      | (with_reducible exact instarlaw03_alive.mono _)
      | (with_reducible exact value_Named.mono _ _)
      | (with_reducible exact LeO.refl _)
      | (with_reducible exact LeO.none _)
      | (with_reducible refine LeO.ite ?_ ?_)
      | (with_reducible refine LeO.bind ?_ (fun _ => ?_))
      | exact ih0 _ _ _ _
      | exact instarlaw03_alive.mono _
      | exact value_Named.mono _ _
      | exact LeO.none _
      | refine LeO.ite ?_ ?_
      | refine LeO.bind ?_ (fun _ => ?_)
theorem instarlaw03_ValueNames.mono : ∀ a0 a1 k, LeO (instarlaw03_ValueNames.f k a0 a1) (instarlaw03_ValueNames.f (k + 1) a0 a1) := by
  intro a0 a1 k
  have ih0 := instarlaw03_ValueNames.mono_l k
  unfold instarlaw03_ValueNames.f
  repeat' first
      | (with_reducible exact ih0 _ _ _ _)
      | (with_reducible exact instarlaw03_alive.mono _)
      | (with_reducible exact value_Named.mono _ _)
      | (with_reducible exact LeO.refl _)
      | (with_reducible exact LeO.none _)
      | (with_reducible refine LeO.ite ?_ ?_)
      | (with_reducible refine LeO.bind ?_ (fun _ => ?_))
      | exact ih0 _ _ _ _
      | exact instarlaw03_alive.mono _
      | exact value_Named.mono _ _
      | exact LeO.none _
      | refine LeO.ite ?_ ?_
      | refine LeO.bind ?_ (fun _ => ?_)
set_option maxHeartbeats 8000000 in
set_option maxRecDepth 100000 in
theorem instarlaw03_ValueNames.calls (k : Nat) (a0 : Int) (a1 : ByteArray) (r : Bool) (w : World) (hG : Go.Proofs.YtkhhhhdebdfonaaDoor.Bs.Gl w) (hr_ : Aside0 (r = true)) (h : instarlaw03_ValueNames.f k a0 a1 = some r) :
    Calls Tryd.prog 4 #[.int .i64 a0, .string a1] w fun e w' => e = .returned (.bool r) ∧ Below w.heap.size w w' := by
  have HB := Aside0.mk (Below.refl w.heap.size w)
  have H : ((value_Named.f k a1).bind fun bt101 => (if bt101.1 = 0 then (instarlaw03_ValueNames.j0 k a0 bt101.1 bt101.2 false) else ((instarref03_Name.f bt101.1).bind fun t103 => (if t103.toList = a1.toList then ((instarref03_Column.f bt101.1).bind fun t104 => (instarlaw03_ValueNames.j0 k a0 bt101.1 bt101.2 t104)) else (instarlaw03_ValueNames.j0 k a0 bt101.1 bt101.2 false))))) = some r := h
  clear h
  replace H := Option.bind_eq_some_iff.mp H
  obtain ⟨⟨t101, t102⟩, A30, H⟩ := H
  replace H : (if t101 = 0 then (instarlaw03_ValueNames.j0 k a0 t101 t102 false) else ((instarref03_Name.f t101).bind fun t103 => (if t103.toList = a1.toList then ((instarref03_Column.f t101).bind fun t104 => (instarlaw03_ValueNames.j0 k a0 t101 t102 t104)) else (instarlaw03_ValueNames.j0 k a0 t101 t102 false)))) = some r := H
  have A3 := Aside0.mk A30
  clear A30
  have HC4 := Aside0.mk H
  clear H
  go_enter Tryd.func4, Tryd.ntmps4
  go_upto_region 2 with (first | ((with_reducible refine gate_callee (f := 12) rfl ?_); refine goesL_ (some 13) rfl rfl Tryd.func12 (by kernel_rfl) rfl #[.string a1] rfl (by (try simp only [List.map_toArray, List.map_cons, List.map_nil]); first | done | rfl | (simp only [List.length_drop, List.length_take]; rfl)) ?_; (with_reducible refine (value_Named.calls k a1 t101 t102 _ A3.out).mono ?_); rintro e w5 ⟨rfl, hb⟩; refine ⟨_, rfl, ?_⟩; have n0_ := Aside0.mk (below_step (by repeat (first | (with_reducible first | exact HB.out | apply below_alloc | apply pw_below_drewN | apply below_drew1) | exact HB.out)) hb); clear HB; have HB := n0_; clear n0_; (try clear hb); (try clear hb2); (try clear hk); (try clear hi)))
  (try simp only [Act.put, List.setIfInBounds_toArray, List.set_cons_zero, List.set_cons_succ])
  go_cut [7] (fun v7 wc => ∃ (kq : Nat) (x7_3 : Bool), v7 = .bool x7_3 ∧ Aside0 (instarlaw03_ValueNames.j0 kq a0 t101 t102 x7_3 = some r) ∧ Aside0 (kq ≤ k) ∧ Aside0 (Below w.heap.size w wc))
  case first =>
    have H := HC4.out
    clear HC4
    by_cases c6 : t101 = 0
    · rw [if_pos c6] at H
      have c6b0 : (t101 == 0) = true := beq_iff_eq.mpr c6
      have c6b1 : (t101 != 0) = false := bne_eq_false_iff_eq.mpr c6
      clear c6
      (first | rw [c6b0] | (simp only [i64_w, i32_w]; rw [c6b0]) | skip)
      have H' := Aside0.mk H
      clear H
      go_wp2
      go_meet
      case rel => exact ⟨_, (false), (by first | rfl | (simp; done) | (simp [*]; done) | (simp [Go.Proofs.YtkhhhhdebdfonaaDoor.Bs.isEmpty_bne, Go.Proofs.YtkhhhhdebdfonaaDoor.Bs.isEmpty_beq]; done)), H', ⟨by first | omega | exact Nat.le_refl _⟩, ⟨by repeat (first | (with_reducible first | exact HB.out | apply below_alloc | apply pw_below_drewN | apply below_drew1) | exact HB.out)⟩⟩
    · rw [if_neg c6] at H
      have c6b0 : (t101 == 0) = false := beq_eq_false_iff_ne.mpr c6
      have c6b1 : (t101 != 0) = true := bne_iff_ne.mpr c6
      (first | rw [c6b0] | (simp only [i64_w, i32_w]; rw [c6b0]) | skip)
      replace H := Option.bind_eq_some_iff.mp H
      obtain ⟨t103, A70, H⟩ := H
      replace H : (if t103.toList = a1.toList then ((instarref03_Column.f t101).bind fun t104 => (instarlaw03_ValueNames.j0 k a0 t101 t102 t104)) else (instarlaw03_ValueNames.j0 k a0 t101 t102 false)) = some r := H
      have A7 := Aside0.mk A70
      clear A70
      by_cases c8 : t103.toList = a1.toList
      · rw [if_pos c8] at H
        have c8b0 : (t103.toList == a1.toList) = true := beq_iff_eq.mpr c8
        have c8b1 : (t103.toList != a1.toList) = false := bne_eq_false_iff_eq.mpr c8
        clear c8
        replace H := Option.bind_eq_some_iff.mp H
        obtain ⟨t104, A90, H⟩ := H
        replace H : (instarlaw03_ValueNames.j0 k a0 t101 t102 t104) = some r := H
        have A9 := Aside0.mk A90
        clear A90
        have H' := Aside0.mk H
        clear H
        go_wp2_with (first | (go_at_call 13; (with_reducible refine (instarref03_Name.calls t101 t103 _ A7.out).mono ?_); rintro e w' ⟨rfl, ⟨nd, rfl⟩⟩) | (go_at_call 14; (with_reducible refine (instarref03_Column.calls t101 t104 _ A9.out).mono ?_); rintro e w' ⟨rfl, ⟨nd, rfl⟩⟩))
        go_meet
        case rel => exact ⟨_, (t104), (by first | rfl | (simp; done) | (simp [*]; done) | (simp [Go.Proofs.YtkhhhhdebdfonaaDoor.Bs.isEmpty_bne, Go.Proofs.YtkhhhhdebdfonaaDoor.Bs.isEmpty_beq]; done)), H', ⟨by first | omega | exact Nat.le_refl _⟩, ⟨by repeat (first | (with_reducible first | exact HB.out | apply below_alloc | apply pw_below_drewN | apply below_drew1) | exact HB.out)⟩⟩
      · rw [if_neg c8] at H
        have c8b0 : (t103.toList == a1.toList) = false := beq_eq_false_iff_ne.mpr c8
        have c8b1 : (t103.toList != a1.toList) = true := bne_iff_ne.mpr c8
        have H' := Aside0.mk H
        clear H
        go_wp2_with (first | (go_at_call 13; (with_reducible refine (instarref03_Name.calls t101 t103 _ A7.out).mono ?_); rintro e w' ⟨rfl, ⟨nd, rfl⟩⟩))
        go_meet
        case rel => exact ⟨_, (false), (by first | rfl | (simp; done) | (simp [*]; done) | (simp [Go.Proofs.YtkhhhhdebdfonaaDoor.Bs.isEmpty_bne, Go.Proofs.YtkhhhhdebdfonaaDoor.Bs.isEmpty_beq]; done)), H', ⟨by first | omega | exact Nat.le_refl _⟩, ⟨by repeat (first | (with_reducible first | exact HB.out | apply below_alloc | apply pw_below_drewN | apply below_drew1) | exact HB.out)⟩⟩
  case rest =>
    clear HC4
    try clear c1
    try clear p2
    try clear c4
    try clear c6
    try clear c6b0
    try clear c6b1
    try clear c8
    try clear c8b0
    try clear c8b1
    obtain ⟨kq, x7_3, rfl, HA, HJ3, HB⟩ := hcut
    cases kq with
    | zero => exact absurd HA.out (by simp [instarlaw03_ValueNames.j0])
    | succ kj3 =>
      have H := HA.out
      clear HA
      simp only [instarlaw03_ValueNames.j0] at H
      replace H := Option.bind_eq_some_iff.mp H
      obtain ⟨t105, A100, H⟩ := H
      replace H : ((value_Named.f kj3 t105).bind fun bt106 => ((instarref03_Column.f a0).bind fun t108 => ((instarlaw03_alive.f kj3).bind fun t109 => (if t109 = true then ((value_Name.f a0).bind fun t110 => ((instarref03_Name.f a0).bind fun t111 => (if t110.toList = t111.toList then (if (t102 == x7_3) = true then (if t102 = true then (if (bt106.2 == t108) = true then (if bt106.2 = true then (some (bt106.1 == a0)) else (some true)) else (some false)) else (if t101 = 0 then (if (bt106.2 == t108) = true then (if bt106.2 = true then (some (bt106.1 == a0)) else (some true)) else (some false)) else (some false))) else (some false)) else (some false)))) else (some false))))) = some r := H
      have A10 := Aside0.mk A100
      clear A100
      replace H := Option.bind_eq_some_iff.mp H
      obtain ⟨⟨t106, t107⟩, A110, H⟩ := H
      replace H : ((instarref03_Column.f a0).bind fun t108 => ((instarlaw03_alive.f kj3).bind fun t109 => (if t109 = true then ((value_Name.f a0).bind fun t110 => ((instarref03_Name.f a0).bind fun t111 => (if t110.toList = t111.toList then (if (t102 == x7_3) = true then (if t102 = true then (if (t107 == t108) = true then (if t107 = true then (some (t106 == a0)) else (some true)) else (some false)) else (if t101 = 0 then (if (t107 == t108) = true then (if t107 = true then (some (t106 == a0)) else (some true)) else (some false)) else (some false))) else (some false)) else (some false)))) else (some false)))) = some r := H
      have A11 := Aside0.mk A110
      clear A110
      replace H := Option.bind_eq_some_iff.mp H
      obtain ⟨t108, A120, H⟩ := H
      replace H : ((instarlaw03_alive.f kj3).bind fun t109 => (if t109 = true then ((value_Name.f a0).bind fun t110 => ((instarref03_Name.f a0).bind fun t111 => (if t110.toList = t111.toList then (if (t102 == x7_3) = true then (if t102 = true then (if (t107 == t108) = true then (if t107 = true then (some (t106 == a0)) else (some true)) else (some false)) else (if t101 = 0 then (if (t107 == t108) = true then (if t107 = true then (some (t106 == a0)) else (some true)) else (some false)) else (some false))) else (some false)) else (some false)))) else (some false))) = some r := H
      have A12 := Aside0.mk A120
      clear A120
      replace H := Option.bind_eq_some_iff.mp H
      obtain ⟨t109, A130, H⟩ := H
      replace H : (if t109 = true then ((value_Name.f a0).bind fun t110 => ((instarref03_Name.f a0).bind fun t111 => (if t110.toList = t111.toList then (if (t102 == x7_3) = true then (if t102 = true then (if (t107 == t108) = true then (if t107 = true then (some (t106 == a0)) else (some true)) else (some false)) else (if t101 = 0 then (if (t107 == t108) = true then (if t107 = true then (some (t106 == a0)) else (some true)) else (some false)) else (some false))) else (some false)) else (some false)))) else (some false)) = some r := H
      have A13 := Aside0.mk A130
      clear A130
      by_cases c14 : t109 = true
      · subst c14
        have H1 : ((value_Name.f a0).bind fun t110 => ((instarref03_Name.f a0).bind fun t111 => (if t110.toList = t111.toList then (if (t102 == x7_3) = true then (if t102 = true then (if (t107 == t108) = true then (if t107 = true then (some (t106 == a0)) else (some true)) else (some false)) else (if t101 = 0 then (if (t107 == t108) = true then (if t107 = true then (some (t106 == a0)) else (some true)) else (some false)) else (some false))) else (some false)) else (some false)))) = some r := by rw [if_pos rfl] at H; exact H
        clear H
        have H := H1
        clear H1
        replace H := Option.bind_eq_some_iff.mp H
        obtain ⟨t110, A150, H⟩ := H
        replace H : ((instarref03_Name.f a0).bind fun t111 => (if t110.toList = t111.toList then (if (t102 == x7_3) = true then (if t102 = true then (if (t107 == t108) = true then (if t107 = true then (some (t106 == a0)) else (some true)) else (some false)) else (if t101 = 0 then (if (t107 == t108) = true then (if t107 = true then (some (t106 == a0)) else (some true)) else (some false)) else (some false))) else (some false)) else (some false))) = some r := H
        have A15 := Aside0.mk A150
        clear A150
        replace H := Option.bind_eq_some_iff.mp H
        obtain ⟨t111, A160, H⟩ := H
        replace H : (if t110.toList = t111.toList then (if (t102 == x7_3) = true then (if t102 = true then (if (t107 == t108) = true then (if t107 = true then (some (t106 == a0)) else (some true)) else (some false)) else (if t101 = 0 then (if (t107 == t108) = true then (if t107 = true then (some (t106 == a0)) else (some true)) else (some false)) else (some false))) else (some false)) else (some false)) = some r := H
        have A16 := Aside0.mk A160
        clear A160
        by_cases c17 : t110.toList = t111.toList
        · rw [if_pos c17] at H
          have c17b0 : (t110.toList == t111.toList) = true := beq_iff_eq.mpr c17
          have c17b1 : (t110.toList != t111.toList) = false := bne_eq_false_iff_eq.mpr c17
          clear c17
          by_cases c18 : (t102 == x7_3) = true
          · rw [if_pos c18] at H
            have c18b0 : (t102 == x7_3) = true := c18
            (try (have c18b1 : decide (t102 = x7_3) = true := by simpa using c18))
            (try (have c18b2 : (t102 == x7_3) = true := by simpa using c18))
            clear c18
            by_cases c19 : t102 = true
            · subst c19
              have H1 : (if (t107 == t108) = true then (if t107 = true then (some (t106 == a0)) else (some true)) else (some false)) = some r := by rw [if_pos rfl] at H; exact H
              clear H
              have H := H1
              clear H1
              by_cases c20 : (t107 == t108) = true
              · rw [if_pos c20] at H
                have c20b0 : (t107 == t108) = true := c20
                (try (have c20b1 : decide (t107 = t108) = true := by simpa using c20))
                (try (have c20b2 : (t107 == t108) = true := by simpa using c20))
                clear c20
                by_cases c21 : t107 = true
                · subst c21
                  have H1 : (some (t106 == a0)) = some r := by rw [if_pos rfl] at H; exact H
                  clear H
                  have H := H1
                  clear H1
                  obtain rfl := Option.some.inj H
                  go_wp2_with (first | ((with_reducible refine gate_callee (f := 15) rfl ?_); refine goesL_ (some 30) rfl rfl Tryd.func15 (by kernel_rfl) rfl #[.int .i64 a0] rfl (by (try simp only [List.map_toArray, List.map_cons, List.map_nil]); first | done | rfl | (simp only [List.length_drop, List.length_take]; rfl)) ?_; (with_reducible refine (value_Name.calls a0 t105 _ A10.out).mono ?_); rintro e w22 ⟨rfl, hb⟩; refine ⟨_, rfl, ?_⟩; have n0_ := Aside0.mk (below_step (by repeat (first | (with_reducible first | exact HB.out | apply below_alloc | apply pw_below_drewN | apply below_drew1) | exact HB.out)) hb); clear HB; have HB := n0_; clear n0_; (try clear hb); (try clear hb2); (try clear hk); (try clear hi)) | ((with_reducible refine gate_callee (f := 12) rfl ?_); refine goesL_ (some 31) rfl rfl Tryd.func12 (by kernel_rfl) rfl #[.string t105] rfl (by (try simp only [List.map_toArray, List.map_cons, List.map_nil]); first | done | rfl | (simp only [List.length_drop, List.length_take]; rfl)) ?_; (with_reducible refine (value_Named.calls kj3 t105 t106 true _ A11.out).mono ?_); rintro e w23 ⟨rfl, hb⟩; refine ⟨_, rfl, ?_⟩; have n0_ := Aside0.mk (below_step (by repeat (first | (with_reducible first | exact HB.out | apply below_alloc | apply pw_below_drewN | apply below_drew1) | exact HB.out)) hb); clear HB; have HB := n0_; clear n0_; (try clear hb); (try clear hb2); (try clear hk); (try clear hi)) | ((with_reducible refine gate_callee (f := 14) rfl ?_); refine goesL_ (some 35) rfl rfl Tryd.func14 (by kernel_rfl) rfl #[.int .i64 a0] rfl (by (try simp only [List.map_toArray, List.map_cons, List.map_nil]); first | done | rfl | (simp only [List.length_drop, List.length_take]; rfl)) ?_; (with_reducible refine (instarref03_Column.calls a0 t108 _ A12.out).mono ?_); rintro e w' ⟨rfl, ⟨nd, rfl⟩⟩; refine ⟨_, rfl, ?_⟩) | ((with_reducible refine gate_callee (f := 7) rfl ?_); refine goesL_ (some 36) rfl rfl Tryd.func7 (by kernel_rfl) rfl #[] rfl (by (try simp only [List.map_toArray, List.map_cons, List.map_nil]); first | done | rfl | (simp only [List.length_drop, List.length_take]; rfl)) ?_; (with_reducible refine (instarlaw03_alive.calls kj3  true _ ?side1 A13.out).mono ?_); (case side1 => first | exact hG | exact Go.Proofs.YtkhhhhdebdfonaaDoor.Bs.Gl.below hG (by repeat (first | (with_reducible first | exact HB.out | apply below_alloc | apply pw_below_drewN | apply below_drew1) | exact HB.out)) | (repeat (first | exact hG | refine Go.Proofs.YtkhhhhdebdfonaaDoor.Bs.Gl.drewN ?_ _))); rintro e w24 ⟨rfl, hb⟩; refine ⟨_, rfl, ?_⟩; have n0_ := Aside0.mk (below_step (by repeat (first | (with_reducible first | exact HB.out | apply below_alloc | apply pw_below_drewN | apply below_drew1) | exact HB.out)) hb); clear HB; have HB := n0_; clear n0_; (try clear hb); (try clear hb2); (try clear hk); (try clear hi)) | (go_at_call 15; (with_reducible refine (value_Name.calls a0 t110 _ A15.out).mono ?_); rintro e w25 ⟨rfl, hb⟩; have n0_ := Aside0.mk (below_step (by repeat (first | (with_reducible first | exact HB.out | apply below_alloc | apply pw_below_drewN | apply below_drew1) | exact HB.out)) hb); clear HB; have HB := n0_; clear n0_; (try clear hb); (try clear hb2); (try clear hk); (try clear hi)) | (go_at_call 13; (with_reducible refine (instarref03_Name.calls a0 t111 _ A16.out).mono ?_); rintro e w' ⟨rfl, ⟨nd, rfl⟩⟩))
                  go_ret
                  exact ⟨by first | rfl | (simp [errW_none, errW_some] <;> rfl) | (simp [*, errW_none, errW_some] <;> rfl), by repeat (first | (with_reducible first | exact HB.out | apply below_alloc | apply pw_below_drewN | apply below_drew1) | exact HB.out)⟩
                · replace c21 := Bool.eq_false_iff.mpr c21
                  subst c21
                  have H1 : (some true) = some r := by rw [if_neg (show ¬ (false = true) by decide)] at H; exact H
                  clear H
                  have H := H1
                  clear H1
                  obtain rfl := Option.some.inj H
                  go_wp2_with (first | ((with_reducible refine gate_callee (f := 15) rfl ?_); refine goesL_ (some 30) rfl rfl Tryd.func15 (by kernel_rfl) rfl #[.int .i64 a0] rfl (by (try simp only [List.map_toArray, List.map_cons, List.map_nil]); first | done | rfl | (simp only [List.length_drop, List.length_take]; rfl)) ?_; (with_reducible refine (value_Name.calls a0 t105 _ A10.out).mono ?_); rintro e w26 ⟨rfl, hb⟩; refine ⟨_, rfl, ?_⟩; have n0_ := Aside0.mk (below_step (by repeat (first | (with_reducible first | exact HB.out | apply below_alloc | apply pw_below_drewN | apply below_drew1) | exact HB.out)) hb); clear HB; have HB := n0_; clear n0_; (try clear hb); (try clear hb2); (try clear hk); (try clear hi)) | ((with_reducible refine gate_callee (f := 12) rfl ?_); refine goesL_ (some 31) rfl rfl Tryd.func12 (by kernel_rfl) rfl #[.string t105] rfl (by (try simp only [List.map_toArray, List.map_cons, List.map_nil]); first | done | rfl | (simp only [List.length_drop, List.length_take]; rfl)) ?_; (with_reducible refine (value_Named.calls kj3 t105 t106 false _ A11.out).mono ?_); rintro e w27 ⟨rfl, hb⟩; refine ⟨_, rfl, ?_⟩; have n0_ := Aside0.mk (below_step (by repeat (first | (with_reducible first | exact HB.out | apply below_alloc | apply pw_below_drewN | apply below_drew1) | exact HB.out)) hb); clear HB; have HB := n0_; clear n0_; (try clear hb); (try clear hb2); (try clear hk); (try clear hi)) | ((with_reducible refine gate_callee (f := 14) rfl ?_); refine goesL_ (some 35) rfl rfl Tryd.func14 (by kernel_rfl) rfl #[.int .i64 a0] rfl (by (try simp only [List.map_toArray, List.map_cons, List.map_nil]); first | done | rfl | (simp only [List.length_drop, List.length_take]; rfl)) ?_; (with_reducible refine (instarref03_Column.calls a0 t108 _ A12.out).mono ?_); rintro e w' ⟨rfl, ⟨nd, rfl⟩⟩; refine ⟨_, rfl, ?_⟩) | ((with_reducible refine gate_callee (f := 7) rfl ?_); refine goesL_ (some 36) rfl rfl Tryd.func7 (by kernel_rfl) rfl #[] rfl (by (try simp only [List.map_toArray, List.map_cons, List.map_nil]); first | done | rfl | (simp only [List.length_drop, List.length_take]; rfl)) ?_; (with_reducible refine (instarlaw03_alive.calls kj3  true _ ?side1 A13.out).mono ?_); (case side1 => first | exact hG | exact Go.Proofs.YtkhhhhdebdfonaaDoor.Bs.Gl.below hG (by repeat (first | (with_reducible first | exact HB.out | apply below_alloc | apply pw_below_drewN | apply below_drew1) | exact HB.out)) | (repeat (first | exact hG | refine Go.Proofs.YtkhhhhdebdfonaaDoor.Bs.Gl.drewN ?_ _))); rintro e w28 ⟨rfl, hb⟩; refine ⟨_, rfl, ?_⟩; have n0_ := Aside0.mk (below_step (by repeat (first | (with_reducible first | exact HB.out | apply below_alloc | apply pw_below_drewN | apply below_drew1) | exact HB.out)) hb); clear HB; have HB := n0_; clear n0_; (try clear hb); (try clear hb2); (try clear hk); (try clear hi)) | (go_at_call 15; (with_reducible refine (value_Name.calls a0 t110 _ A15.out).mono ?_); rintro e w29 ⟨rfl, hb⟩; have n0_ := Aside0.mk (below_step (by repeat (first | (with_reducible first | exact HB.out | apply below_alloc | apply pw_below_drewN | apply below_drew1) | exact HB.out)) hb); clear HB; have HB := n0_; clear n0_; (try clear hb); (try clear hb2); (try clear hk); (try clear hi)) | (go_at_call 13; (with_reducible refine (instarref03_Name.calls a0 t111 _ A16.out).mono ?_); rintro e w' ⟨rfl, ⟨nd, rfl⟩⟩))
                  go_ret
                  exact ⟨by first | rfl | (simp [errW_none, errW_some] <;> rfl) | (simp [*, errW_none, errW_some] <;> rfl), by repeat (first | (with_reducible first | exact HB.out | apply below_alloc | apply pw_below_drewN | apply below_drew1) | exact HB.out)⟩
              · rw [if_neg c20] at H
                have c20b0 : (t107 == t108) = false := by simpa using c20
                (try (have c20b1 : decide (t107 = t108) = false := by simpa using c20))
                (try (have c20b2 : (t107 == t108) = false := by simpa using c20))
                (try (have c20b3 : ¬ (t107 = t108) := by simpa using c20))
                clear c20
                exact absurd ((Option.some.inj H).trans hr_.out) (by decide)
            · replace c19 := Bool.eq_false_iff.mpr c19
              subst c19
              have H1 : (if t101 = 0 then (if (t107 == t108) = true then (if t107 = true then (some (t106 == a0)) else (some true)) else (some false)) else (some false)) = some r := by rw [if_neg (show ¬ (false = true) by decide)] at H; exact H
              clear H
              have H := H1
              clear H1
              by_cases c30 : t101 = 0
              · rw [if_pos c30] at H
                have c30b0 : (t101 == 0) = true := beq_iff_eq.mpr c30
                have c30b1 : (t101 != 0) = false := bne_eq_false_iff_eq.mpr c30
                clear c30
                by_cases c31 : (t107 == t108) = true
                · rw [if_pos c31] at H
                  have c31b0 : (t107 == t108) = true := c31
                  (try (have c31b1 : decide (t107 = t108) = true := by simpa using c31))
                  (try (have c31b2 : (t107 == t108) = true := by simpa using c31))
                  clear c31
                  by_cases c32 : t107 = true
                  · subst c32
                    have H1 : (some (t106 == a0)) = some r := by rw [if_pos rfl] at H; exact H
                    clear H
                    have H := H1
                    clear H1
                    obtain rfl := Option.some.inj H
                    go_wp2_with (first | ((with_reducible refine gate_callee (f := 15) rfl ?_); refine goesL_ (some 30) rfl rfl Tryd.func15 (by kernel_rfl) rfl #[.int .i64 a0] rfl (by (try simp only [List.map_toArray, List.map_cons, List.map_nil]); first | done | rfl | (simp only [List.length_drop, List.length_take]; rfl)) ?_; (with_reducible refine (value_Name.calls a0 t105 _ A10.out).mono ?_); rintro e w33 ⟨rfl, hb⟩; refine ⟨_, rfl, ?_⟩; have n0_ := Aside0.mk (below_step (by repeat (first | (with_reducible first | exact HB.out | apply below_alloc | apply pw_below_drewN | apply below_drew1) | exact HB.out)) hb); clear HB; have HB := n0_; clear n0_; (try clear hb); (try clear hb2); (try clear hk); (try clear hi)) | ((with_reducible refine gate_callee (f := 12) rfl ?_); refine goesL_ (some 31) rfl rfl Tryd.func12 (by kernel_rfl) rfl #[.string t105] rfl (by (try simp only [List.map_toArray, List.map_cons, List.map_nil]); first | done | rfl | (simp only [List.length_drop, List.length_take]; rfl)) ?_; (with_reducible refine (value_Named.calls kj3 t105 t106 true _ A11.out).mono ?_); rintro e w34 ⟨rfl, hb⟩; refine ⟨_, rfl, ?_⟩; have n0_ := Aside0.mk (below_step (by repeat (first | (with_reducible first | exact HB.out | apply below_alloc | apply pw_below_drewN | apply below_drew1) | exact HB.out)) hb); clear HB; have HB := n0_; clear n0_; (try clear hb); (try clear hb2); (try clear hk); (try clear hi)) | ((with_reducible refine gate_callee (f := 14) rfl ?_); refine goesL_ (some 35) rfl rfl Tryd.func14 (by kernel_rfl) rfl #[.int .i64 a0] rfl (by (try simp only [List.map_toArray, List.map_cons, List.map_nil]); first | done | rfl | (simp only [List.length_drop, List.length_take]; rfl)) ?_; (with_reducible refine (instarref03_Column.calls a0 t108 _ A12.out).mono ?_); rintro e w' ⟨rfl, ⟨nd, rfl⟩⟩; refine ⟨_, rfl, ?_⟩) | ((with_reducible refine gate_callee (f := 7) rfl ?_); refine goesL_ (some 36) rfl rfl Tryd.func7 (by kernel_rfl) rfl #[] rfl (by (try simp only [List.map_toArray, List.map_cons, List.map_nil]); first | done | rfl | (simp only [List.length_drop, List.length_take]; rfl)) ?_; (with_reducible refine (instarlaw03_alive.calls kj3  true _ ?side1 A13.out).mono ?_); (case side1 => first | exact hG | exact Go.Proofs.YtkhhhhdebdfonaaDoor.Bs.Gl.below hG (by repeat (first | (with_reducible first | exact HB.out | apply below_alloc | apply pw_below_drewN | apply below_drew1) | exact HB.out)) | (repeat (first | exact hG | refine Go.Proofs.YtkhhhhdebdfonaaDoor.Bs.Gl.drewN ?_ _))); rintro e w35 ⟨rfl, hb⟩; refine ⟨_, rfl, ?_⟩; have n0_ := Aside0.mk (below_step (by repeat (first | (with_reducible first | exact HB.out | apply below_alloc | apply pw_below_drewN | apply below_drew1) | exact HB.out)) hb); clear HB; have HB := n0_; clear n0_; (try clear hb); (try clear hb2); (try clear hk); (try clear hi)) | (go_at_call 15; (with_reducible refine (value_Name.calls a0 t110 _ A15.out).mono ?_); rintro e w36 ⟨rfl, hb⟩; have n0_ := Aside0.mk (below_step (by repeat (first | (with_reducible first | exact HB.out | apply below_alloc | apply pw_below_drewN | apply below_drew1) | exact HB.out)) hb); clear HB; have HB := n0_; clear n0_; (try clear hb); (try clear hb2); (try clear hk); (try clear hi)) | (go_at_call 13; (with_reducible refine (instarref03_Name.calls a0 t111 _ A16.out).mono ?_); rintro e w' ⟨rfl, ⟨nd, rfl⟩⟩))
                    go_ret
                    exact ⟨by first | rfl | (simp [errW_none, errW_some] <;> rfl) | (simp [*, errW_none, errW_some] <;> rfl), by repeat (first | (with_reducible first | exact HB.out | apply below_alloc | apply pw_below_drewN | apply below_drew1) | exact HB.out)⟩
                  · replace c32 := Bool.eq_false_iff.mpr c32
                    subst c32
                    have H1 : (some true) = some r := by rw [if_neg (show ¬ (false = true) by decide)] at H; exact H
                    clear H
                    have H := H1
                    clear H1
                    obtain rfl := Option.some.inj H
                    go_wp2_with (first | ((with_reducible refine gate_callee (f := 15) rfl ?_); refine goesL_ (some 30) rfl rfl Tryd.func15 (by kernel_rfl) rfl #[.int .i64 a0] rfl (by (try simp only [List.map_toArray, List.map_cons, List.map_nil]); first | done | rfl | (simp only [List.length_drop, List.length_take]; rfl)) ?_; (with_reducible refine (value_Name.calls a0 t105 _ A10.out).mono ?_); rintro e w37 ⟨rfl, hb⟩; refine ⟨_, rfl, ?_⟩; have n0_ := Aside0.mk (below_step (by repeat (first | (with_reducible first | exact HB.out | apply below_alloc | apply pw_below_drewN | apply below_drew1) | exact HB.out)) hb); clear HB; have HB := n0_; clear n0_; (try clear hb); (try clear hb2); (try clear hk); (try clear hi)) | ((with_reducible refine gate_callee (f := 12) rfl ?_); refine goesL_ (some 31) rfl rfl Tryd.func12 (by kernel_rfl) rfl #[.string t105] rfl (by (try simp only [List.map_toArray, List.map_cons, List.map_nil]); first | done | rfl | (simp only [List.length_drop, List.length_take]; rfl)) ?_; (with_reducible refine (value_Named.calls kj3 t105 t106 false _ A11.out).mono ?_); rintro e w38 ⟨rfl, hb⟩; refine ⟨_, rfl, ?_⟩; have n0_ := Aside0.mk (below_step (by repeat (first | (with_reducible first | exact HB.out | apply below_alloc | apply pw_below_drewN | apply below_drew1) | exact HB.out)) hb); clear HB; have HB := n0_; clear n0_; (try clear hb); (try clear hb2); (try clear hk); (try clear hi)) | ((with_reducible refine gate_callee (f := 14) rfl ?_); refine goesL_ (some 35) rfl rfl Tryd.func14 (by kernel_rfl) rfl #[.int .i64 a0] rfl (by (try simp only [List.map_toArray, List.map_cons, List.map_nil]); first | done | rfl | (simp only [List.length_drop, List.length_take]; rfl)) ?_; (with_reducible refine (instarref03_Column.calls a0 t108 _ A12.out).mono ?_); rintro e w' ⟨rfl, ⟨nd, rfl⟩⟩; refine ⟨_, rfl, ?_⟩) | ((with_reducible refine gate_callee (f := 7) rfl ?_); refine goesL_ (some 36) rfl rfl Tryd.func7 (by kernel_rfl) rfl #[] rfl (by (try simp only [List.map_toArray, List.map_cons, List.map_nil]); first | done | rfl | (simp only [List.length_drop, List.length_take]; rfl)) ?_; (with_reducible refine (instarlaw03_alive.calls kj3  true _ ?side1 A13.out).mono ?_); (case side1 => first | exact hG | exact Go.Proofs.YtkhhhhdebdfonaaDoor.Bs.Gl.below hG (by repeat (first | (with_reducible first | exact HB.out | apply below_alloc | apply pw_below_drewN | apply below_drew1) | exact HB.out)) | (repeat (first | exact hG | refine Go.Proofs.YtkhhhhdebdfonaaDoor.Bs.Gl.drewN ?_ _))); rintro e w39 ⟨rfl, hb⟩; refine ⟨_, rfl, ?_⟩; have n0_ := Aside0.mk (below_step (by repeat (first | (with_reducible first | exact HB.out | apply below_alloc | apply pw_below_drewN | apply below_drew1) | exact HB.out)) hb); clear HB; have HB := n0_; clear n0_; (try clear hb); (try clear hb2); (try clear hk); (try clear hi)) | (go_at_call 15; (with_reducible refine (value_Name.calls a0 t110 _ A15.out).mono ?_); rintro e w40 ⟨rfl, hb⟩; have n0_ := Aside0.mk (below_step (by repeat (first | (with_reducible first | exact HB.out | apply below_alloc | apply pw_below_drewN | apply below_drew1) | exact HB.out)) hb); clear HB; have HB := n0_; clear n0_; (try clear hb); (try clear hb2); (try clear hk); (try clear hi)) | (go_at_call 13; (with_reducible refine (instarref03_Name.calls a0 t111 _ A16.out).mono ?_); rintro e w' ⟨rfl, ⟨nd, rfl⟩⟩))
                    go_ret
                    exact ⟨by first | rfl | (simp [errW_none, errW_some] <;> rfl) | (simp [*, errW_none, errW_some] <;> rfl), by repeat (first | (with_reducible first | exact HB.out | apply below_alloc | apply pw_below_drewN | apply below_drew1) | exact HB.out)⟩
                · rw [if_neg c31] at H
                  have c31b0 : (t107 == t108) = false := by simpa using c31
                  (try (have c31b1 : decide (t107 = t108) = false := by simpa using c31))
                  (try (have c31b2 : (t107 == t108) = false := by simpa using c31))
                  (try (have c31b3 : ¬ (t107 = t108) := by simpa using c31))
                  clear c31
                  exact absurd ((Option.some.inj H).trans hr_.out) (by decide)
              · rw [if_neg c30] at H
                have c30b0 : (t101 == 0) = false := beq_eq_false_iff_ne.mpr c30
                have c30b1 : (t101 != 0) = true := bne_iff_ne.mpr c30
                exact absurd ((Option.some.inj H).trans hr_.out) (by decide)
          · rw [if_neg c18] at H
            have c18b0 : (t102 == x7_3) = false := by simpa using c18
            (try (have c18b1 : decide (t102 = x7_3) = false := by simpa using c18))
            (try (have c18b2 : (t102 == x7_3) = false := by simpa using c18))
            (try (have c18b3 : ¬ (t102 = x7_3) := by simpa using c18))
            clear c18
            exact absurd ((Option.some.inj H).trans hr_.out) (by decide)
        · rw [if_neg c17] at H
          have c17b0 : (t110.toList == t111.toList) = false := beq_eq_false_iff_ne.mpr c17
          have c17b1 : (t110.toList != t111.toList) = true := bne_iff_ne.mpr c17
          exact absurd ((Option.some.inj H).trans hr_.out) (by decide)
      · replace c14 := Bool.eq_false_iff.mpr c14
        subst c14
        have H1 : (some false) = some r := by rw [if_neg (show ¬ (false = true) by decide)] at H; exact H
        clear H
        have H := H1
        clear H1
        exact absurd ((Option.some.inj H).trans hr_.out) (by decide)

/-! ### cmp_Or_int: function 25 -/
def cmp_Or_int.l0 : Nat → Int → List Int → Int → Int → Option (Int)
  | 0, _, _, _, _ => none
  | k + 1, x3, x6, x7, x8 => if x8 < x7 then (if 0 ≤ x8 then (if x8 < (x6.length : Int) then (if (rd x6 x8) = x3 then (cmp_Or_int.l0 k x3 x6 x7 (wrap64 (x8 + 1))) else (some (rd x6 x8))) else (none)) else (none)) else (some x3)
def cmp_Or_int.f (k : Nat) (l0 : List Int) : Option (Int) := cmp_Or_int.l0 k 0 l0 (l0.length : Int) 0
theorem cmp_Or_int.mono_l : ∀ k, (∀ y0 y1 y2 y3, LeO (cmp_Or_int.l0 k y0 y1 y2 y3) (cmp_Or_int.l0 (k + 1) y0 y1 y2 y3))
  | 0 => fun _ _ _ _ r h => by simp [cmp_Or_int.l0] at h
  | k + 1 => by
    have ih0 := cmp_Or_int.mono_l k
    · intro y0 y1 y2 y3
      unfold cmp_Or_int.l0
      repeat' first
      | (with_reducible exact ih0 _ _ _ _)
      | (with_reducible exact LeO.refl _)
      | (with_reducible exact LeO.none _)
      | (with_reducible refine LeO.ite ?_ ?_)
      | (with_reducible refine LeO.bind ?_ (fun _ => ?_))
      | exact ih0 _ _ _ _
      | exact LeO.none _
      | refine LeO.ite ?_ ?_
      | refine LeO.bind ?_ (fun _ => ?_)
theorem cmp_Or_int.mono : ∀ a0 k, LeO (cmp_Or_int.f k a0) (cmp_Or_int.f (k + 1) a0) := by
  intro a0 k
  have ih0 := cmp_Or_int.mono_l k
  unfold cmp_Or_int.f
  repeat' first
      | (with_reducible exact ih0 _ _ _ _)
      | (with_reducible exact LeO.refl _)
      | (with_reducible exact LeO.none _)
      | (with_reducible refine LeO.ite ?_ ?_)
      | (with_reducible refine LeO.bind ?_ (fun _ => ?_))
      | exact ih0 _ _ _ _
      | exact LeO.none _
      | refine LeO.ite ?_ ?_
      | refine LeO.bind ?_ (fun _ => ?_)
set_option maxHeartbeats 8000000 in
set_option maxRecDepth 100000 in
theorem cmp_Or_int.calls (k : Nat) (A0 : Option Addr) (c0 : Nat) (l0 : List Int) (r : Int) (w : World) (hr0 : Kd.C (Kd.int .i64) w A0 l0.length l0) (hc0 : l0.length ≤ c0) (h : cmp_Or_int.f k l0 = some r) :
    Calls Tryd.prog 25 #[.slice A0 l0.length c0] w fun e w' => e = .returned (.int .i64 r) ∧ Drawn0 w w' := by
  have HR0 := Aside0.mk hr0
  have HC0 := Aside0.mk hc0
  clear hr0 hc0
  have H : (cmp_Or_int.l0 k 0 l0 (l0.length : Int) 0) = some r := h
  clear h
  have H' := Aside0.mk H
  clear H
  go_enter Tryd.func25, Tryd.ntmps25
  go_wp2
  go_loopg [8] k (fun kq v8 w' => ∃ (x8_1 : Int), v8 = .int .i64 x8_1 ∧ Aside0 (cmp_Or_int.l0 kq 0 l0 (l0.length : Int) x8_1 = some r) ∧ Aside0 (kq ≤ k) ∧ Drawn0 w w')
  case atStart => exact ⟨(0), (by first | rfl | (simp; done) | (simp [*]; done) | (simp [Go.Proofs.YtkhhhhdebdfonaaDoor.Bs.isEmpty_bne, Go.Proofs.YtkhhhhdebdfonaaDoor.Bs.isEmpty_beq]; done)), H', ⟨Nat.le_refl _⟩, by repeat (first | exact Drawn0.refl _ | apply Drawn0.step)⟩
  case round =>
    clear H'
    obtain ⟨x8_1, rfl, HA, HK1, ⟨m1, rfl⟩⟩ := hrel
    cases gk with
    | zero => exact absurd HA.out (by simp [cmp_Or_int.l0])
    | succ k1 =>
      have H := HA.out
      clear HA
      simp only [cmp_Or_int.l0] at H
      by_cases c2 : x8_1 < (l0.length : Int)
      · rw [if_pos c2] at H
        have c2b0 : decide (x8_1 < (l0.length : Int)) = true := decide_eq_true c2
        clear c2
        by_cases c3 : 0 ≤ x8_1
        · rw [if_pos c3] at H
          have c3b0 : decide (0 ≤ x8_1) = true := decide_eq_true c3
          clear c3
          by_cases c4 : x8_1 < (l0.length : Int)
          · rw [if_pos c4] at H
            have c4b0 : decide (x8_1 < (l0.length : Int)) = true := decide_eq_true c4
            clear c4
            by_cases c5 : (rd l0 x8_1) = 0
            · rw [if_pos c5] at H
              have c5b0 : ((rd l0 x8_1) == 0) = true := beq_iff_eq.mpr c5
              have c5b1 : ((rd l0 x8_1) != 0) = false := bne_eq_false_iff_eq.mpr c5
              clear c5
              have H' := Aside0.mk H
              clear H
              have p101 : 0 ≤ (x8_1 : Int) := of_decide_eq_true (by first | (with_reducible assumption) | assumption)
              have q101 : x8_1 < (l0.length : Int) := of_decide_eq_true (by first | (with_reducible assumption) | assumption)
              obtain ⟨ad101, e101, hx101_0⟩ := Kd.at_int HR0.out x8_1 p101 q101
              cases e101
              replace p101 := eq_true p101
              replace q101 := eq_true q101
              go_wp2
              go_roundg k1
              case measure => have := HK1.out; omega
              case rel => exact ⟨(wrap64 (x8_1 + 1)), (by first | rfl | (simp; done) | (simp [*]; done) | (simp [Go.Proofs.YtkhhhhdebdfonaaDoor.Bs.isEmpty_bne, Go.Proofs.YtkhhhhdebdfonaaDoor.Bs.isEmpty_beq]; done)), H', ⟨by have := HK1.out; omega⟩, by repeat (first | exact Drawn0.refl _ | apply Drawn0.step)⟩
            · rw [if_neg c5] at H
              have c5b0 : ((rd l0 x8_1) == 0) = false := beq_eq_false_iff_ne.mpr c5
              have c5b1 : ((rd l0 x8_1) != 0) = true := bne_iff_ne.mpr c5
              obtain rfl := Option.some.inj H
              have p101 : 0 ≤ (x8_1 : Int) := of_decide_eq_true (by first | (with_reducible assumption) | assumption)
              have q101 : x8_1 < (l0.length : Int) := of_decide_eq_true (by first | (with_reducible assumption) | assumption)
              obtain ⟨ad101, e101, hx101_0⟩ := Kd.at_int HR0.out x8_1 p101 q101
              cases e101
              replace p101 := eq_true p101
              replace q101 := eq_true q101
              go_wp2
              go_ret
              exact ⟨by first | rfl | (simp; done) | (simp [*]; done) | (simp [Go.Proofs.YtkhhhhdebdfonaaDoor.Bs.isEmpty_bne, Go.Proofs.YtkhhhhdebdfonaaDoor.Bs.isEmpty_beq]; done), by repeat (first | exact Drawn0.refl _ | apply Drawn0.step)⟩
          · rw [if_neg c4] at H
            exact absurd H (by simp)
        · rw [if_neg c3] at H
          exact absurd H (by simp)
      · rw [if_neg c2] at H
        have c2b0 : decide (x8_1 < (l0.length : Int)) = false := decide_eq_false c2
        clear c2
        obtain rfl := Option.some.inj H
        go_wp2
        go_ret
        exact ⟨by first | rfl | (simp; done) | (simp [*]; done) | (simp [Go.Proofs.YtkhhhhdebdfonaaDoor.Bs.isEmpty_bne, Go.Proofs.YtkhhhhdebdfonaaDoor.Bs.isEmpty_beq]; done), by repeat (first | exact Drawn0.refl _ | apply Drawn0.step)⟩

/-! ### api_Kind_33: function 33 -/
def api_Kind_33.f (a0 : Int) : Option (Bool) := some (a0 != a0)
set_option maxHeartbeats 8000000 in
set_option maxRecDepth 100000 in
theorem api_Kind_33.calls (a0 : Int) (r : Bool) (w : World) (h : api_Kind_33.f a0 = some r) :
    Calls Tryd.prog 33 #[.int .i64 a0] w fun e w' => e = .returned (.bool r) ∧ Drawn0 w w' := by
  have H : (some (a0 != a0)) = some r := h
  clear h
  obtain rfl := Option.some.inj H
  go_enter Tryd.func33, Tryd.ntmps33
  go_wp2
  go_ret
  exact ⟨by first | rfl | (simp; done) | (simp [*]; done) | (simp [Go.Proofs.YtkhhhhdebdfonaaDoor.Bs.isEmpty_bne, Go.Proofs.YtkhhhhdebdfonaaDoor.Bs.isEmpty_beq]; done), by repeat (first | exact Drawn0.refl _ | apply Drawn0.step)⟩

/-! ### api_Kind_26: function 26 -/
def api_Kind_26.f (a0 : Int) (a1 : Int) : Option (Int) := (api_Kind_33.f a0).bind fun t101 => ((api_Kind_33.f a1).bind fun t102 => (if t101 = true then (if t102 = true then (some 0) else (some (-1))) else (if t102 = true then (some 1) else (if a0 < a1 then (some (-1)) else (if a0 > a1 then (some 1) else (some 0))))))
set_option maxHeartbeats 8000000 in
set_option maxRecDepth 100000 in
theorem api_Kind_26.calls (a0 : Int) (a1 : Int) (r : Int) (w : World) (h : api_Kind_26.f a0 a1 = some r) :
    Calls Tryd.prog 26 #[.int .i64 a0, .int .i64 a1] w fun e w' => e = .returned (.int .i64 r) ∧ Drawn0 w w' := by
  have H : ((api_Kind_33.f a0).bind fun t101 => ((api_Kind_33.f a1).bind fun t102 => (if t101 = true then (if t102 = true then (some 0) else (some (-1))) else (if t102 = true then (some 1) else (if a0 < a1 then (some (-1)) else (if a0 > a1 then (some 1) else (some 0))))))) = some r := h
  clear h
  replace H := Option.bind_eq_some_iff.mp H
  obtain ⟨t101, A30, H⟩ := H
  replace H : ((api_Kind_33.f a1).bind fun t102 => (if t101 = true then (if t102 = true then (some 0) else (some (-1))) else (if t102 = true then (some 1) else (if a0 < a1 then (some (-1)) else (if a0 > a1 then (some 1) else (some 0)))))) = some r := H
  have A3 := Aside0.mk A30
  clear A30
  replace H := Option.bind_eq_some_iff.mp H
  obtain ⟨t102, A40, H⟩ := H
  replace H : (if t101 = true then (if t102 = true then (some 0) else (some (-1))) else (if t102 = true then (some 1) else (if a0 < a1 then (some (-1)) else (if a0 > a1 then (some 1) else (some 0))))) = some r := H
  have A4 := Aside0.mk A40
  clear A40
  by_cases c5 : t101 = true
  · subst c5
    have H1 : (if t102 = true then (some 0) else (some (-1))) = some r := by rw [if_pos rfl] at H; exact H
    clear H
    have H := H1
    clear H1
    by_cases c6 : t102 = true
    · subst c6
      have H1 : (some 0) = some r := by rw [if_pos rfl] at H; exact H
      clear H
      have H := H1
      clear H1
      obtain rfl := Option.some.inj H
      go_enter Tryd.func26, Tryd.ntmps26
      go_wp2_with (first | ((with_reducible refine gate_callee (f := 33) rfl ?_); refine goesL_ (some 8) rfl rfl Tryd.func33 (by kernel_rfl) rfl #[.int .i64 a0] rfl (by (try simp only [List.map_toArray, List.map_cons, List.map_nil]); first | done | rfl | (simp only [List.length_drop, List.length_take]; rfl)) ?_; (with_reducible refine (api_Kind_33.calls a0 true _ A3.out).mono ?_); rintro e w' ⟨rfl, ⟨nd, rfl⟩⟩; refine ⟨_, rfl, ?_⟩) | ((with_reducible refine gate_callee (f := 33) rfl ?_); refine goesL_ (some 10) rfl rfl Tryd.func33 (by kernel_rfl) rfl #[.int .i64 a1] rfl (by (try simp only [List.map_toArray, List.map_cons, List.map_nil]); first | done | rfl | (simp only [List.length_drop, List.length_take]; rfl)) ?_; (with_reducible refine (api_Kind_33.calls a1 true _ A4.out).mono ?_); rintro e w' ⟨rfl, ⟨nd, rfl⟩⟩; refine ⟨_, rfl, ?_⟩))
      go_ret
      exact ⟨by first | rfl | (simp; done) | (simp [*]; done) | (simp [Go.Proofs.YtkhhhhdebdfonaaDoor.Bs.isEmpty_bne, Go.Proofs.YtkhhhhdebdfonaaDoor.Bs.isEmpty_beq]; done), by repeat (first | exact Drawn0.refl _ | apply Drawn0.step)⟩
    · replace c6 := Bool.eq_false_iff.mpr c6
      subst c6
      have H1 : (some (-1)) = some r := by rw [if_neg (show ¬ (false = true) by decide)] at H; exact H
      clear H
      have H := H1
      clear H1
      obtain rfl := Option.some.inj H
      go_enter Tryd.func26, Tryd.ntmps26
      go_wp2_with (first | ((with_reducible refine gate_callee (f := 33) rfl ?_); refine goesL_ (some 8) rfl rfl Tryd.func33 (by kernel_rfl) rfl #[.int .i64 a0] rfl (by (try simp only [List.map_toArray, List.map_cons, List.map_nil]); first | done | rfl | (simp only [List.length_drop, List.length_take]; rfl)) ?_; (with_reducible refine (api_Kind_33.calls a0 true _ A3.out).mono ?_); rintro e w' ⟨rfl, ⟨nd, rfl⟩⟩; refine ⟨_, rfl, ?_⟩) | ((with_reducible refine gate_callee (f := 33) rfl ?_); refine goesL_ (some 10) rfl rfl Tryd.func33 (by kernel_rfl) rfl #[.int .i64 a1] rfl (by (try simp only [List.map_toArray, List.map_cons, List.map_nil]); first | done | rfl | (simp only [List.length_drop, List.length_take]; rfl)) ?_; (with_reducible refine (api_Kind_33.calls a1 false _ A4.out).mono ?_); rintro e w' ⟨rfl, ⟨nd, rfl⟩⟩; refine ⟨_, rfl, ?_⟩))
      go_ret
      exact ⟨by first | rfl | (simp; done) | (simp [*]; done) | (simp [Go.Proofs.YtkhhhhdebdfonaaDoor.Bs.isEmpty_bne, Go.Proofs.YtkhhhhdebdfonaaDoor.Bs.isEmpty_beq]; done), by repeat (first | exact Drawn0.refl _ | apply Drawn0.step)⟩
  · replace c5 := Bool.eq_false_iff.mpr c5
    subst c5
    have H1 : (if t102 = true then (some 1) else (if a0 < a1 then (some (-1)) else (if a0 > a1 then (some 1) else (some 0)))) = some r := by rw [if_neg (show ¬ (false = true) by decide)] at H; exact H
    clear H
    have H := H1
    clear H1
    by_cases c7 : t102 = true
    · subst c7
      have H1 : (some 1) = some r := by rw [if_pos rfl] at H; exact H
      clear H
      have H := H1
      clear H1
      obtain rfl := Option.some.inj H
      go_enter Tryd.func26, Tryd.ntmps26
      go_wp2_with (first | ((with_reducible refine gate_callee (f := 33) rfl ?_); refine goesL_ (some 8) rfl rfl Tryd.func33 (by kernel_rfl) rfl #[.int .i64 a0] rfl (by (try simp only [List.map_toArray, List.map_cons, List.map_nil]); first | done | rfl | (simp only [List.length_drop, List.length_take]; rfl)) ?_; (with_reducible refine (api_Kind_33.calls a0 false _ A3.out).mono ?_); rintro e w' ⟨rfl, ⟨nd, rfl⟩⟩; refine ⟨_, rfl, ?_⟩) | ((with_reducible refine gate_callee (f := 33) rfl ?_); refine goesL_ (some 10) rfl rfl Tryd.func33 (by kernel_rfl) rfl #[.int .i64 a1] rfl (by (try simp only [List.map_toArray, List.map_cons, List.map_nil]); first | done | rfl | (simp only [List.length_drop, List.length_take]; rfl)) ?_; (with_reducible refine (api_Kind_33.calls a1 true _ A4.out).mono ?_); rintro e w' ⟨rfl, ⟨nd, rfl⟩⟩; refine ⟨_, rfl, ?_⟩))
      go_ret
      exact ⟨by first | rfl | (simp; done) | (simp [*]; done) | (simp [Go.Proofs.YtkhhhhdebdfonaaDoor.Bs.isEmpty_bne, Go.Proofs.YtkhhhhdebdfonaaDoor.Bs.isEmpty_beq]; done), by repeat (first | exact Drawn0.refl _ | apply Drawn0.step)⟩
    · replace c7 := Bool.eq_false_iff.mpr c7
      subst c7
      have H1 : (if a0 < a1 then (some (-1)) else (if a0 > a1 then (some 1) else (some 0))) = some r := by rw [if_neg (show ¬ (false = true) by decide)] at H; exact H
      clear H
      have H := H1
      clear H1
      by_cases c8 : a0 < a1
      · rw [if_pos c8] at H
        have c8b0 : decide (a0 < a1) = true := decide_eq_true c8
        clear c8
        obtain rfl := Option.some.inj H
        go_enter Tryd.func26, Tryd.ntmps26
        go_wp2_with (first | ((with_reducible refine gate_callee (f := 33) rfl ?_); refine goesL_ (some 8) rfl rfl Tryd.func33 (by kernel_rfl) rfl #[.int .i64 a0] rfl (by (try simp only [List.map_toArray, List.map_cons, List.map_nil]); first | done | rfl | (simp only [List.length_drop, List.length_take]; rfl)) ?_; (with_reducible refine (api_Kind_33.calls a0 false _ A3.out).mono ?_); rintro e w' ⟨rfl, ⟨nd, rfl⟩⟩; refine ⟨_, rfl, ?_⟩) | ((with_reducible refine gate_callee (f := 33) rfl ?_); refine goesL_ (some 10) rfl rfl Tryd.func33 (by kernel_rfl) rfl #[.int .i64 a1] rfl (by (try simp only [List.map_toArray, List.map_cons, List.map_nil]); first | done | rfl | (simp only [List.length_drop, List.length_take]; rfl)) ?_; (with_reducible refine (api_Kind_33.calls a1 false _ A4.out).mono ?_); rintro e w' ⟨rfl, ⟨nd, rfl⟩⟩; refine ⟨_, rfl, ?_⟩))
        go_ret
        exact ⟨by first | rfl | (simp; done) | (simp [*]; done) | (simp [Go.Proofs.YtkhhhhdebdfonaaDoor.Bs.isEmpty_bne, Go.Proofs.YtkhhhhdebdfonaaDoor.Bs.isEmpty_beq]; done), by repeat (first | exact Drawn0.refl _ | apply Drawn0.step)⟩
      · rw [if_neg c8] at H
        have c8b0 : decide (a0 < a1) = false := decide_eq_false c8
        clear c8
        by_cases c9 : a0 > a1
        · rw [if_pos c9] at H
          have c9b0 : decide (a1 < a0) = true := decide_eq_true c9
          clear c9
          obtain rfl := Option.some.inj H
          go_enter Tryd.func26, Tryd.ntmps26
          go_wp2_with (first | ((with_reducible refine gate_callee (f := 33) rfl ?_); refine goesL_ (some 8) rfl rfl Tryd.func33 (by kernel_rfl) rfl #[.int .i64 a0] rfl (by (try simp only [List.map_toArray, List.map_cons, List.map_nil]); first | done | rfl | (simp only [List.length_drop, List.length_take]; rfl)) ?_; (with_reducible refine (api_Kind_33.calls a0 false _ A3.out).mono ?_); rintro e w' ⟨rfl, ⟨nd, rfl⟩⟩; refine ⟨_, rfl, ?_⟩) | ((with_reducible refine gate_callee (f := 33) rfl ?_); refine goesL_ (some 10) rfl rfl Tryd.func33 (by kernel_rfl) rfl #[.int .i64 a1] rfl (by (try simp only [List.map_toArray, List.map_cons, List.map_nil]); first | done | rfl | (simp only [List.length_drop, List.length_take]; rfl)) ?_; (with_reducible refine (api_Kind_33.calls a1 false _ A4.out).mono ?_); rintro e w' ⟨rfl, ⟨nd, rfl⟩⟩; refine ⟨_, rfl, ?_⟩))
          go_ret
          exact ⟨by first | rfl | (simp; done) | (simp [*]; done) | (simp [Go.Proofs.YtkhhhhdebdfonaaDoor.Bs.isEmpty_bne, Go.Proofs.YtkhhhhdebdfonaaDoor.Bs.isEmpty_beq]; done), by repeat (first | exact Drawn0.refl _ | apply Drawn0.step)⟩
        · rw [if_neg c9] at H
          have c9b0 : decide (a1 < a0) = false := decide_eq_false c9
          clear c9
          obtain rfl := Option.some.inj H
          go_enter Tryd.func26, Tryd.ntmps26
          go_wp2_with (first | ((with_reducible refine gate_callee (f := 33) rfl ?_); refine goesL_ (some 8) rfl rfl Tryd.func33 (by kernel_rfl) rfl #[.int .i64 a0] rfl (by (try simp only [List.map_toArray, List.map_cons, List.map_nil]); first | done | rfl | (simp only [List.length_drop, List.length_take]; rfl)) ?_; (with_reducible refine (api_Kind_33.calls a0 false _ A3.out).mono ?_); rintro e w' ⟨rfl, ⟨nd, rfl⟩⟩; refine ⟨_, rfl, ?_⟩) | ((with_reducible refine gate_callee (f := 33) rfl ?_); refine goesL_ (some 10) rfl rfl Tryd.func33 (by kernel_rfl) rfl #[.int .i64 a1] rfl (by (try simp only [List.map_toArray, List.map_cons, List.map_nil]); first | done | rfl | (simp only [List.length_drop, List.length_take]; rfl)) ?_; (with_reducible refine (api_Kind_33.calls a1 false _ A4.out).mono ?_); rintro e w' ⟨rfl, ⟨nd, rfl⟩⟩; refine ⟨_, rfl, ?_⟩))
          go_ret
          exact ⟨by first | rfl | (simp; done) | (simp [*]; done) | (simp [Go.Proofs.YtkhhhhdebdfonaaDoor.Bs.isEmpty_bne, Go.Proofs.YtkhhhhdebdfonaaDoor.Bs.isEmpty_beq]; done), by repeat (first | exact Drawn0.refl _ | apply Drawn0.step)⟩

/-! ### cmp_isNaN_int64: function 34 -/
def cmp_isNaN_int64.f (a0 : Int) : Option (Bool) := some (a0 != a0)
set_option maxHeartbeats 8000000 in
set_option maxRecDepth 100000 in
theorem cmp_isNaN_int64.calls (a0 : Int) (r : Bool) (w : World) (h : cmp_isNaN_int64.f a0 = some r) :
    Calls Tryd.prog 34 #[.int .i64 a0] w fun e w' => e = .returned (.bool r) ∧ Drawn0 w w' := by
  have H : (some (a0 != a0)) = some r := h
  clear h
  obtain rfl := Option.some.inj H
  go_enter Tryd.func34, Tryd.ntmps34
  go_wp2
  go_ret
  exact ⟨by first | rfl | (simp; done) | (simp [*]; done) | (simp [Go.Proofs.YtkhhhhdebdfonaaDoor.Bs.isEmpty_bne, Go.Proofs.YtkhhhhdebdfonaaDoor.Bs.isEmpty_beq]; done), by repeat (first | exact Drawn0.refl _ | apply Drawn0.step)⟩

/-! ### cmp_Compare_int64: function 27 -/
def cmp_Compare_int64.f (a0 : Int) (a1 : Int) : Option (Int) := (cmp_isNaN_int64.f a0).bind fun t101 => ((cmp_isNaN_int64.f a1).bind fun t102 => (if t101 = true then (if t102 = true then (some 0) else (some (-1))) else (if t102 = true then (some 1) else (if a0 < a1 then (some (-1)) else (if a0 > a1 then (some 1) else (some 0))))))
set_option maxHeartbeats 8000000 in
set_option maxRecDepth 100000 in
theorem cmp_Compare_int64.calls (a0 : Int) (a1 : Int) (r : Int) (w : World) (h : cmp_Compare_int64.f a0 a1 = some r) :
    Calls Tryd.prog 27 #[.int .i64 a0, .int .i64 a1] w fun e w' => e = .returned (.int .i64 r) ∧ Drawn0 w w' := by
  have H : ((cmp_isNaN_int64.f a0).bind fun t101 => ((cmp_isNaN_int64.f a1).bind fun t102 => (if t101 = true then (if t102 = true then (some 0) else (some (-1))) else (if t102 = true then (some 1) else (if a0 < a1 then (some (-1)) else (if a0 > a1 then (some 1) else (some 0))))))) = some r := h
  clear h
  replace H := Option.bind_eq_some_iff.mp H
  obtain ⟨t101, A30, H⟩ := H
  replace H : ((cmp_isNaN_int64.f a1).bind fun t102 => (if t101 = true then (if t102 = true then (some 0) else (some (-1))) else (if t102 = true then (some 1) else (if a0 < a1 then (some (-1)) else (if a0 > a1 then (some 1) else (some 0)))))) = some r := H
  have A3 := Aside0.mk A30
  clear A30
  replace H := Option.bind_eq_some_iff.mp H
  obtain ⟨t102, A40, H⟩ := H
  replace H : (if t101 = true then (if t102 = true then (some 0) else (some (-1))) else (if t102 = true then (some 1) else (if a0 < a1 then (some (-1)) else (if a0 > a1 then (some 1) else (some 0))))) = some r := H
  have A4 := Aside0.mk A40
  clear A40
  by_cases c5 : t101 = true
  · subst c5
    have H1 : (if t102 = true then (some 0) else (some (-1))) = some r := by rw [if_pos rfl] at H; exact H
    clear H
    have H := H1
    clear H1
    by_cases c6 : t102 = true
    · subst c6
      have H1 : (some 0) = some r := by rw [if_pos rfl] at H; exact H
      clear H
      have H := H1
      clear H1
      obtain rfl := Option.some.inj H
      go_enter Tryd.func27, Tryd.ntmps27
      go_wp2_with (first | ((with_reducible refine gate_callee (f := 34) rfl ?_); refine goesL_ (some 8) rfl rfl Tryd.func34 (by kernel_rfl) rfl #[.int .i64 a0] rfl (by (try simp only [List.map_toArray, List.map_cons, List.map_nil]); first | done | rfl | (simp only [List.length_drop, List.length_take]; rfl)) ?_; (with_reducible refine (cmp_isNaN_int64.calls a0 true _ A3.out).mono ?_); rintro e w' ⟨rfl, ⟨nd, rfl⟩⟩; refine ⟨_, rfl, ?_⟩) | ((with_reducible refine gate_callee (f := 34) rfl ?_); refine goesL_ (some 10) rfl rfl Tryd.func34 (by kernel_rfl) rfl #[.int .i64 a1] rfl (by (try simp only [List.map_toArray, List.map_cons, List.map_nil]); first | done | rfl | (simp only [List.length_drop, List.length_take]; rfl)) ?_; (with_reducible refine (cmp_isNaN_int64.calls a1 true _ A4.out).mono ?_); rintro e w' ⟨rfl, ⟨nd, rfl⟩⟩; refine ⟨_, rfl, ?_⟩))
      go_ret
      exact ⟨by first | rfl | (simp; done) | (simp [*]; done) | (simp [Go.Proofs.YtkhhhhdebdfonaaDoor.Bs.isEmpty_bne, Go.Proofs.YtkhhhhdebdfonaaDoor.Bs.isEmpty_beq]; done), by repeat (first | exact Drawn0.refl _ | apply Drawn0.step)⟩
    · replace c6 := Bool.eq_false_iff.mpr c6
      subst c6
      have H1 : (some (-1)) = some r := by rw [if_neg (show ¬ (false = true) by decide)] at H; exact H
      clear H
      have H := H1
      clear H1
      obtain rfl := Option.some.inj H
      go_enter Tryd.func27, Tryd.ntmps27
      go_wp2_with (first | ((with_reducible refine gate_callee (f := 34) rfl ?_); refine goesL_ (some 8) rfl rfl Tryd.func34 (by kernel_rfl) rfl #[.int .i64 a0] rfl (by (try simp only [List.map_toArray, List.map_cons, List.map_nil]); first | done | rfl | (simp only [List.length_drop, List.length_take]; rfl)) ?_; (with_reducible refine (cmp_isNaN_int64.calls a0 true _ A3.out).mono ?_); rintro e w' ⟨rfl, ⟨nd, rfl⟩⟩; refine ⟨_, rfl, ?_⟩) | ((with_reducible refine gate_callee (f := 34) rfl ?_); refine goesL_ (some 10) rfl rfl Tryd.func34 (by kernel_rfl) rfl #[.int .i64 a1] rfl (by (try simp only [List.map_toArray, List.map_cons, List.map_nil]); first | done | rfl | (simp only [List.length_drop, List.length_take]; rfl)) ?_; (with_reducible refine (cmp_isNaN_int64.calls a1 false _ A4.out).mono ?_); rintro e w' ⟨rfl, ⟨nd, rfl⟩⟩; refine ⟨_, rfl, ?_⟩))
      go_ret
      exact ⟨by first | rfl | (simp; done) | (simp [*]; done) | (simp [Go.Proofs.YtkhhhhdebdfonaaDoor.Bs.isEmpty_bne, Go.Proofs.YtkhhhhdebdfonaaDoor.Bs.isEmpty_beq]; done), by repeat (first | exact Drawn0.refl _ | apply Drawn0.step)⟩
  · replace c5 := Bool.eq_false_iff.mpr c5
    subst c5
    have H1 : (if t102 = true then (some 1) else (if a0 < a1 then (some (-1)) else (if a0 > a1 then (some 1) else (some 0)))) = some r := by rw [if_neg (show ¬ (false = true) by decide)] at H; exact H
    clear H
    have H := H1
    clear H1
    by_cases c7 : t102 = true
    · subst c7
      have H1 : (some 1) = some r := by rw [if_pos rfl] at H; exact H
      clear H
      have H := H1
      clear H1
      obtain rfl := Option.some.inj H
      go_enter Tryd.func27, Tryd.ntmps27
      go_wp2_with (first | ((with_reducible refine gate_callee (f := 34) rfl ?_); refine goesL_ (some 8) rfl rfl Tryd.func34 (by kernel_rfl) rfl #[.int .i64 a0] rfl (by (try simp only [List.map_toArray, List.map_cons, List.map_nil]); first | done | rfl | (simp only [List.length_drop, List.length_take]; rfl)) ?_; (with_reducible refine (cmp_isNaN_int64.calls a0 false _ A3.out).mono ?_); rintro e w' ⟨rfl, ⟨nd, rfl⟩⟩; refine ⟨_, rfl, ?_⟩) | ((with_reducible refine gate_callee (f := 34) rfl ?_); refine goesL_ (some 10) rfl rfl Tryd.func34 (by kernel_rfl) rfl #[.int .i64 a1] rfl (by (try simp only [List.map_toArray, List.map_cons, List.map_nil]); first | done | rfl | (simp only [List.length_drop, List.length_take]; rfl)) ?_; (with_reducible refine (cmp_isNaN_int64.calls a1 true _ A4.out).mono ?_); rintro e w' ⟨rfl, ⟨nd, rfl⟩⟩; refine ⟨_, rfl, ?_⟩))
      go_ret
      exact ⟨by first | rfl | (simp; done) | (simp [*]; done) | (simp [Go.Proofs.YtkhhhhdebdfonaaDoor.Bs.isEmpty_bne, Go.Proofs.YtkhhhhdebdfonaaDoor.Bs.isEmpty_beq]; done), by repeat (first | exact Drawn0.refl _ | apply Drawn0.step)⟩
    · replace c7 := Bool.eq_false_iff.mpr c7
      subst c7
      have H1 : (if a0 < a1 then (some (-1)) else (if a0 > a1 then (some 1) else (some 0))) = some r := by rw [if_neg (show ¬ (false = true) by decide)] at H; exact H
      clear H
      have H := H1
      clear H1
      by_cases c8 : a0 < a1
      · rw [if_pos c8] at H
        have c8b0 : decide (a0 < a1) = true := decide_eq_true c8
        clear c8
        obtain rfl := Option.some.inj H
        go_enter Tryd.func27, Tryd.ntmps27
        go_wp2_with (first | ((with_reducible refine gate_callee (f := 34) rfl ?_); refine goesL_ (some 8) rfl rfl Tryd.func34 (by kernel_rfl) rfl #[.int .i64 a0] rfl (by (try simp only [List.map_toArray, List.map_cons, List.map_nil]); first | done | rfl | (simp only [List.length_drop, List.length_take]; rfl)) ?_; (with_reducible refine (cmp_isNaN_int64.calls a0 false _ A3.out).mono ?_); rintro e w' ⟨rfl, ⟨nd, rfl⟩⟩; refine ⟨_, rfl, ?_⟩) | ((with_reducible refine gate_callee (f := 34) rfl ?_); refine goesL_ (some 10) rfl rfl Tryd.func34 (by kernel_rfl) rfl #[.int .i64 a1] rfl (by (try simp only [List.map_toArray, List.map_cons, List.map_nil]); first | done | rfl | (simp only [List.length_drop, List.length_take]; rfl)) ?_; (with_reducible refine (cmp_isNaN_int64.calls a1 false _ A4.out).mono ?_); rintro e w' ⟨rfl, ⟨nd, rfl⟩⟩; refine ⟨_, rfl, ?_⟩))
        go_ret
        exact ⟨by first | rfl | (simp; done) | (simp [*]; done) | (simp [Go.Proofs.YtkhhhhdebdfonaaDoor.Bs.isEmpty_bne, Go.Proofs.YtkhhhhdebdfonaaDoor.Bs.isEmpty_beq]; done), by repeat (first | exact Drawn0.refl _ | apply Drawn0.step)⟩
      · rw [if_neg c8] at H
        have c8b0 : decide (a0 < a1) = false := decide_eq_false c8
        clear c8
        by_cases c9 : a0 > a1
        · rw [if_pos c9] at H
          have c9b0 : decide (a1 < a0) = true := decide_eq_true c9
          clear c9
          obtain rfl := Option.some.inj H
          go_enter Tryd.func27, Tryd.ntmps27
          go_wp2_with (first | ((with_reducible refine gate_callee (f := 34) rfl ?_); refine goesL_ (some 8) rfl rfl Tryd.func34 (by kernel_rfl) rfl #[.int .i64 a0] rfl (by (try simp only [List.map_toArray, List.map_cons, List.map_nil]); first | done | rfl | (simp only [List.length_drop, List.length_take]; rfl)) ?_; (with_reducible refine (cmp_isNaN_int64.calls a0 false _ A3.out).mono ?_); rintro e w' ⟨rfl, ⟨nd, rfl⟩⟩; refine ⟨_, rfl, ?_⟩) | ((with_reducible refine gate_callee (f := 34) rfl ?_); refine goesL_ (some 10) rfl rfl Tryd.func34 (by kernel_rfl) rfl #[.int .i64 a1] rfl (by (try simp only [List.map_toArray, List.map_cons, List.map_nil]); first | done | rfl | (simp only [List.length_drop, List.length_take]; rfl)) ?_; (with_reducible refine (cmp_isNaN_int64.calls a1 false _ A4.out).mono ?_); rintro e w' ⟨rfl, ⟨nd, rfl⟩⟩; refine ⟨_, rfl, ?_⟩))
          go_ret
          exact ⟨by first | rfl | (simp; done) | (simp [*]; done) | (simp [Go.Proofs.YtkhhhhdebdfonaaDoor.Bs.isEmpty_bne, Go.Proofs.YtkhhhhdebdfonaaDoor.Bs.isEmpty_beq]; done), by repeat (first | exact Drawn0.refl _ | apply Drawn0.step)⟩
        · rw [if_neg c9] at H
          have c9b0 : decide (a1 < a0) = false := decide_eq_false c9
          clear c9
          obtain rfl := Option.some.inj H
          go_enter Tryd.func27, Tryd.ntmps27
          go_wp2_with (first | ((with_reducible refine gate_callee (f := 34) rfl ?_); refine goesL_ (some 8) rfl rfl Tryd.func34 (by kernel_rfl) rfl #[.int .i64 a0] rfl (by (try simp only [List.map_toArray, List.map_cons, List.map_nil]); first | done | rfl | (simp only [List.length_drop, List.length_take]; rfl)) ?_; (with_reducible refine (cmp_isNaN_int64.calls a0 false _ A3.out).mono ?_); rintro e w' ⟨rfl, ⟨nd, rfl⟩⟩; refine ⟨_, rfl, ?_⟩) | ((with_reducible refine gate_callee (f := 34) rfl ?_); refine goesL_ (some 10) rfl rfl Tryd.func34 (by kernel_rfl) rfl #[.int .i64 a1] rfl (by (try simp only [List.map_toArray, List.map_cons, List.map_nil]); first | done | rfl | (simp only [List.length_drop, List.length_take]; rfl)) ?_; (with_reducible refine (cmp_isNaN_int64.calls a1 false _ A4.out).mono ?_); rintro e w' ⟨rfl, ⟨nd, rfl⟩⟩; refine ⟨_, rfl, ?_⟩))
          go_ret
          exact ⟨by first | rfl | (simp; done) | (simp [*]; done) | (simp [Go.Proofs.YtkhhhhdebdfonaaDoor.Bs.isEmpty_bne, Go.Proofs.YtkhhhhdebdfonaaDoor.Bs.isEmpty_beq]; done), by repeat (first | exact Drawn0.refl _ | apply Drawn0.step)⟩

/-! ### cmp_isNaN_string: function 35 -/
def cmp_isNaN_string.f (a0 : ByteArray) : Option (Bool) := some (a0.toList != a0.toList)
set_option maxHeartbeats 8000000 in
set_option maxRecDepth 100000 in
theorem cmp_isNaN_string.calls (a0 : ByteArray) (r : Bool) (w : World) (h : cmp_isNaN_string.f a0 = some r) :
    Calls Tryd.prog 35 #[.string a0] w fun e w' => e = .returned (.bool r) ∧ Drawn0 w w' := by
  have H : (some (a0.toList != a0.toList)) = some r := h
  clear h
  obtain rfl := Option.some.inj H
  go_enter Tryd.func35, Tryd.ntmps35
  go_wp2
  go_ret
  exact ⟨by first | rfl | (simp; done) | (simp [*]; done) | (simp [Go.Proofs.YtkhhhhdebdfonaaDoor.Bs.isEmpty_bne, Go.Proofs.YtkhhhhdebdfonaaDoor.Bs.isEmpty_beq]; done), by repeat (first | exact Drawn0.refl _ | apply Drawn0.step)⟩

end Go.Proofs.YtkhhhhdebdfonaaDoor.PA
