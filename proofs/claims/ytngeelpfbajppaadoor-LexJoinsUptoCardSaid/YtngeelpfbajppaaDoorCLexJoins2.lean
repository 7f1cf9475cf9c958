/- For every input the law instar/instarlaw08.LexJoins returns true, and each argument reads afterwards as it read before; no condition but the row's own (what the listed variables hold, which the card ties to the program's text). -/
import Derived.Test.YtngeelpfbajppaaDoorCLexJoins0
import Derived.Test.YtngeelpfbajppaaDoorCLexJoins1
import Derived.Deep.Slices
import Derived.Lib.SmallJoins
import Derived.SizedLaws
import Derived.Lib.Strings
import Derived.Lib.Replace
import Derived.Laws.BytesArg
import Derived.Lib.CountLaws
import Derived.Lib.IndexBytes
import Derived.Laws.BitsAllLaws
import Derived.Test.YtngeelpfbajppaaDoorRows
import Derived.Lib.LaidU8
import Derived.Lib.LaidTab
import Derived.Shelf.LaysM
import Derived.Test.YtngeelpfbajppaaDoorCards
import Derived.Test.YtngeelpfbajppaaDoorTie
import Derived.WalkKit
import Derived.ProofKit
import Derived.OpenShut
import Derived.ShutString
import Derived.ChangeOld
import Derived.Below
import Derived.Deep.DeepHandedRow
import Derived.Deep.DeepWitnessRowRef
import Derived.Lay
import Derived.LaidOnce
import Derived.SevenTiedAt
section
namespace Go.Proofs.YtngeelpfbajppaaDoor.PD
open Go.RowKit Go.Proofs.YtngeelpfbajppaaDoorW.PrintWords Go.Proofs.YtngeelpfbajppaaDoorW.PrintLast Go.Proofs.YtngeelpfbajppaaDoorW.PrintMore
attribute [local go_sem] max2_int min2_int max_two min_two max_three min_three max_four min_four
attribute [local go_sem high] Go.Proofs.YtngeelpfbajppaaDoor.Bs.gtr_bl Go.Proofs.YtngeelpfbajppaaDoor.Bs.leq_bl Go.Proofs.YtngeelpfbajppaaDoor.Bs.cell_set2
set_option linter.unusedVariables false
set_option linter.unusedSimpArgs false
attribute [local go_sem high] eqA35
mutual
def instarlaw08_LexJoins.j0 : Nat → ByteArray → List (S35) → List (S35) → Int → Int → List (S35) → Int → Int → Bool → Option (Bool)
  | 0, _, _, _, _, _, _, _, _, _ => none
  | k + 1, x0, x5, x8, x9, x10, x11, x12, x13, x48 => if x48 = true then ((instarlaw08_alive.f k).bind fun t116 => (some t116)) else (if x10 = 0 then (if x13 = 0 then (instarlaw08_LexJoins.j1 k x0 x5 x8 x11 ((x11.length : Int) != (wrap64 ((x5.length : Int) + (x8.length : Int))))) else (instarlaw08_LexJoins.j1 k x0 x5 x8 x11 true)) else ((instarlaw08_alive.f k).bind fun t117 => (if t117 = true then (if x13 = x10 then (some (x12 == (wrap64 ((wrap64 (x9 + (x0.size : Int))) + 1)))) else (some false)) else (some false))))
def instarlaw08_LexJoins.j1 : Nat → ByteArray → List (S35) → List (S35) → List (S35) → Bool → Option (Bool)
  | 0, _, _, _, _, _ => none
  | k + 1, x0, x5, x8, x11, x78 => if x78 = true then (some false) else (instarlaw08_LexJoins.l0 k x0 x5 x8 x11 0)
def instarlaw08_LexJoins.l0 : Nat → ByteArray → List (S35) → List (S35) → List (S35) → Int → Option (Bool)
  | 0, _, _, _, _, _ => none
  | k + 1, x0, x5, x8, x11, x14 => if x14 < (x11.length : Int) then (if x14 < (x5.length : Int) then (if 0 ≤ x14 then (if (!(((rd_T35 x11 x14).f0) == ((rd_T35 x5 x14).f0)) || (!((((rd_T35 x11 x14).f1).toList) == (((rd_T35 x5 x14).f1).toList)) || (!(((rd_T35 x11 x14).f2) == ((rd_T35 x5 x14).f2))))) = true then (some false) else (instarlaw08_LexJoins.l0 k x0 x5 x8 x11 (wrap64 (x14 + 1)))) else (none)) else (if 0 ≤ (wrap64 (x14 - (x5.length : Int))) then (if (wrap64 (x14 - (x5.length : Int))) < (x8.length : Int) then (if 0 ≤ x14 then (if (!(((rd_T35 x11 x14).f0) == ((rd_T35 x8 (wrap64 (x14 - (x5.length : Int)))).f0)) || (!((((rd_T35 x11 x14).f1).toList) == (((rd_T35 x8 (wrap64 (x14 - (x5.length : Int)))).f1).toList)) || (!(((rd_T35 x11 x14).f2) == (wrap64 ((wrap64 (((rd_T35 x8 (wrap64 (x14 - (x5.length : Int)))).f2) + (x0.size : Int))) + 1)))))) = true then (some false) else (instarlaw08_LexJoins.l0 k x0 x5 x8 x11 (wrap64 (x14 + 1)))) else (none)) else (none)) else (none))) else ((instarlaw08_alive.f k).bind fun t118 => (some t118))
end
def instarlaw08_LexJoins.f (k : Nat) (a0 : ByteArray) (a1 : ByteArray) : Option (Bool) := (lex_Words.f k a0).bind fun bt101 => ((lex_Words.f k a1).bind fun bt106 => (if a0.size + 1 ≤ 9223372036854775807 then (if a0.size + 1 + a1.size ≤ 9223372036854775807 then ((lex_Words.f k ((a0 ++ (⟨#[32]⟩ : ByteArray)) ++ a1)).bind fun bt111 => (if (a0.size : Int) > 300 then (instarlaw08_LexJoins.j0 k a0 bt101.1 bt106.1 bt106.2.1 bt106.2.2 bt111.1 bt111.2.1 bt111.2.2 true) else (if (a1.size : Int) > 300 then (instarlaw08_LexJoins.j0 k a0 bt101.1 bt106.1 bt106.2.1 bt106.2.2 bt111.1 bt111.2.1 bt111.2.2 true) else (instarlaw08_LexJoins.j0 k a0 bt101.1 bt106.1 bt106.2.1 bt106.2.2 bt111.1 bt111.2.1 bt111.2.2 (bt101.2.2 != 0))))) else (none)) else (none)))
theorem instarlaw08_LexJoins.mono_l : ∀ k, (∀ y0 y1 y2 y3 y4 y5 y6 y7 y8, LeO (instarlaw08_LexJoins.j0 k y0 y1 y2 y3 y4 y5 y6 y7 y8) (instarlaw08_LexJoins.j0 (k + 1) y0 y1 y2 y3 y4 y5 y6 y7 y8)) ∧ (∀ y0 y1 y2 y3 y4, LeO (instarlaw08_LexJoins.j1 k y0 y1 y2 y3 y4) (instarlaw08_LexJoins.j1 (k + 1) y0 y1 y2 y3 y4)) ∧ (∀ y0 y1 y2 y3 y4, LeO (instarlaw08_LexJoins.l0 k y0 y1 y2 y3 y4) (instarlaw08_LexJoins.l0 (k + 1) y0 y1 y2 y3 y4))
  | 0 => ⟨fun _ _ _ _ _ _ _ _ _ r h => by simp [instarlaw08_LexJoins.j0] at h, fun _ _ _ _ _ r h => by simp [instarlaw08_LexJoins.j1] at h, fun _ _ _ _ _ r h => by simp [instarlaw08_LexJoins.l0] at h⟩
  | k + 1 => by
    obtain ⟨ih0, ih1, ih2⟩ := instarlaw08_LexJoins.mono_l k
    refine ⟨?_, ?_, ?_⟩
    · intro y0 y1 y2 y3 y4 y5 y6 y7 y8
      unfold instarlaw08_LexJoins.j0
      repeat' first
      | (with_reducible exact ih0 _ _ _ _ _ _ _ _ _)
      | (with_reducible exact ih1 _ _ _ _ _)
      | (with_reducible exact ih2 _ _ _ _ _)
      | (with_reducible exact instarlaw08_alive.mono _)
      | (with_reducible exact lex_Words.mono _ _)
      | (with_reducible exact LeO.refl _)
      | (with_reducible exact LeO.none _)
      | (with_reducible refine LeO.ite ?_ ?_)
      | (with_reducible refine LeO.bind ?_ (fun _ => ?_))
      | exact ih0 _ _ _ _ _ _ _ _ _
      | exact ih1 _ _ _ _ _
      | exact ih2 _ _ _ _ _
      | exact instarlaw08_alive.mono _
      | exact lex_Words.mono _ _
      | exact LeO.none _
      | refine LeO.ite ?_ ?_
      | refine LeO.bind ?_ (fun _ => ?_)
    · intro y0 y1 y2 y3 y4
      unfold instarlaw08_LexJoins.j1
      repeat' first
      | (with_reducible exact ih0 _ _ _ _ _ _ _ _ _)
      | (with_reducible exact ih1 _ _ _ _ _)
      | (with_reducible exact ih2 _ _ _ _ _)
      | (with_reducible exact instarlaw08_alive.mono _)
      | (with_reducible exact lex_Words.mono _ _)
      | (with_reducible exact LeO.refl _)
      | (with_reducible exact LeO.none _)
      | (with_reducible refine LeO.ite ?_ ?_)
      | (with_reducible refine LeO.bind ?_ (fun _ => ?_))
      | exact ih0 _ _ _ _ _ _ _ _ _
      | exact ih1 _ _ _ _ _
      | exact ih2 _ _ _ _ _
      | exact instarlaw08_alive.mono _
      | exact lex_Words.mono _ _
      | exact LeO.none _
      | refine LeO.ite ?_ ?_
      | refine LeO.bind ?_ (fun _ => ?_)
    · intro y0 y1 y2 y3 y4
      unfold instarlaw08_LexJoins.l0
      repeat' first
      | (with_reducible exact ih0 _ _ _ _ _ _ _ _ _)
      | (with_reducible exact ih1 _ _ _ _ _)
      | (with_reducible exact ih2 _ _ _ _ _)
      | (with_reducible exact instarlaw08_alive.mono _)
      | (with_reducible exact lex_Words.mono _ _)
      | (with_reducible exact LeO.refl _)
      | (with_reducible exact LeO.none _)
      | (with_reducible refine LeO.ite ?_ ?_)
      | (with_reducible refine LeO.bind ?_ (fun _ => ?_))
      | exact ih0 _ _ _ _ _ _ _ _ _
      | exact ih1 _ _ _ _ _
      | exact ih2 _ _ _ _ _
      | exact instarlaw08_alive.mono _
      | exact lex_Words.mono _ _
      | exact LeO.none _
      | refine LeO.ite ?_ ?_
      | refine LeO.bind ?_ (fun _ => ?_)
theorem instarlaw08_LexJoins.mono : ∀ a0 a1 k, LeO (instarlaw08_LexJoins.f k a0 a1) (instarlaw08_LexJoins.f (k + 1) a0 a1) := by
  intro a0 a1 k
  obtain ⟨ih0, ih1, ih2⟩ := instarlaw08_LexJoins.mono_l k
  unfold instarlaw08_LexJoins.f
  repeat' first
      | (with_reducible exact ih0 _ _ _ _ _ _ _ _ _)
      | (with_reducible exact ih1 _ _ _ _ _)
      | (with_reducible exact ih2 _ _ _ _ _)
      | (with_reducible exact instarlaw08_alive.mono _)
      | (with_reducible exact lex_Words.mono _ _)
      | (with_reducible exact LeO.refl _)
      | (with_reducible exact LeO.none _)
      | (with_reducible refine LeO.ite ?_ ?_)
      | (with_reducible refine LeO.bind ?_ (fun _ => ?_))
      | exact ih0 _ _ _ _ _ _ _ _ _
      | exact ih1 _ _ _ _ _
      | exact ih2 _ _ _ _ _
      | exact instarlaw08_alive.mono _
      | exact lex_Words.mono _ _
      | exact LeO.none _
      | refine LeO.ite ?_ ?_
      | refine LeO.bind ?_ (fun _ => ?_)
set_option maxHeartbeats 8000000 in
set_option maxRecDepth 100000 in
theorem instarlaw08_LexJoins.calls (k : Nat) (a0 : ByteArray) (a1 : ByteArray) (r : Bool) (w : World) (hG : Go.Proofs.YtngeelpfbajppaaDoor.Bs.Gl w) (hr_ : Aside0 (r = true)) (h : instarlaw08_LexJoins.f k a0 a1 = some r) :
    Calls Tryd.prog 6 #[.string a0, .string a1] w fun e w' => e = .returned (.bool r) ∧ Below w.heap.size w w' := by
  have hu35 := Tryd.underlying35
  have HB := Aside0.mk (Below.refl w.heap.size w)
  have H : ((lex_Words.f k a0).bind fun bt101 => ((lex_Words.f k a1).bind fun bt106 => (if a0.size + 1 ≤ 9223372036854775807 then (if a0.size + 1 + a1.size ≤ 9223372036854775807 then ((lex_Words.f k ((a0 ++ (⟨#[32]⟩ : ByteArray)) ++ a1)).bind fun bt111 => (if (a0.size : Int) > 300 then (instarlaw08_LexJoins.j0 k a0 bt101.1 bt106.1 bt106.2.1 bt106.2.2 bt111.1 bt111.2.1 bt111.2.2 true) else (if (a1.size : Int) > 300 then (instarlaw08_LexJoins.j0 k a0 bt101.1 bt106.1 bt106.2.1 bt106.2.2 bt111.1 bt111.2.1 bt111.2.2 true) else (instarlaw08_LexJoins.j0 k a0 bt101.1 bt106.1 bt106.2.1 bt106.2.2 bt111.1 bt111.2.1 bt111.2.2 (bt101.2.2 != 0))))) else (none)) else (none)))) = some r := h
  clear h
  replace H := Option.bind_eq_some_iff.mp H
  obtain ⟨⟨t101, t102, t103⟩, A30, H⟩ := H
  replace H : ((lex_Words.f k a1).bind fun bt106 => (if a0.size + 1 ≤ 9223372036854775807 then (if a0.size + 1 + a1.size ≤ 9223372036854775807 then ((lex_Words.f k ((a0 ++ (⟨#[32]⟩ : ByteArray)) ++ a1)).bind fun bt111 => (if (a0.size : Int) > 300 then (instarlaw08_LexJoins.j0 k a0 t101 bt106.1 bt106.2.1 bt106.2.2 bt111.1 bt111.2.1 bt111.2.2 true) else (if (a1.size : Int) > 300 then (instarlaw08_LexJoins.j0 k a0 t101 bt106.1 bt106.2.1 bt106.2.2 bt111.1 bt111.2.1 bt111.2.2 true) else (instarlaw08_LexJoins.j0 k a0 t101 bt106.1 bt106.2.1 bt106.2.2 bt111.1 bt111.2.1 bt111.2.2 (t103 != 0))))) else (none)) else (none))) = some r := H
  have A3 := Aside0.mk A30
  clear A30
  replace H := Option.bind_eq_some_iff.mp H
  obtain ⟨⟨t106, t107, t108⟩, A40, H⟩ := H
  replace H : (if a0.size + 1 ≤ 9223372036854775807 then (if a0.size + 1 + a1.size ≤ 9223372036854775807 then ((lex_Words.f k ((a0 ++ (⟨#[32]⟩ : ByteArray)) ++ a1)).bind fun bt111 => (if (a0.size : Int) > 300 then (instarlaw08_LexJoins.j0 k a0 t101 t106 t107 t108 bt111.1 bt111.2.1 bt111.2.2 true) else (if (a1.size : Int) > 300 then (instarlaw08_LexJoins.j0 k a0 t101 t106 t107 t108 bt111.1 bt111.2.1 bt111.2.2 true) else (instarlaw08_LexJoins.j0 k a0 t101 t106 t107 t108 bt111.1 bt111.2.1 bt111.2.2 (t103 != 0))))) else (none)) else (none)) = some r := H
  have A4 := Aside0.mk A40
  clear A40
  by_cases c5 : a0.size + 1 ≤ 9223372036854775807
  · rw [if_pos c5] at H
    have c5b0 := eq_true c5
    have c5b1 : decide (a0.size + 1 ≤ 9223372036854775807) = true := decide_eq_true c5
    try have c5b2 : (9223372036854775807 < a0.size + 1) = False := eq_false (Nat.not_lt.2 c5)
    by_cases c6 : a0.size + 1 + a1.size ≤ 9223372036854775807
    · rw [if_pos c6] at H
      have c6b0 := eq_true c6
      have c6b1 : decide (a0.size + 1 + a1.size ≤ 9223372036854775807) = true := decide_eq_true c6
      try have c6b2 : (9223372036854775807 < a0.size + 1 + a1.size) = False := eq_false (Nat.not_lt.2 c6)
      replace H := Option.bind_eq_some_iff.mp H
      obtain ⟨⟨t111, t112, t113⟩, A70, H⟩ := H
      replace H : (if (a0.size : Int) > 300 then (instarlaw08_LexJoins.j0 k a0 t101 t106 t107 t108 t111 t112 t113 true) else (if (a1.size : Int) > 300 then (instarlaw08_LexJoins.j0 k a0 t101 t106 t107 t108 t111 t112 t113 true) else (instarlaw08_LexJoins.j0 k a0 t101 t106 t107 t108 t111 t112 t113 (t103 != 0)))) = some r := H
      have A7 := Aside0.mk A70
      clear A70
      have HC8 := Aside0.mk H
      clear H
      go_enter Tryd.func6, Tryd.ntmps6
      go_upto_region 4 with (first | (go_at_call 8; (with_reducible refine (lex_Words.calls k a0 t101 t102 t103 _ ?side1 A3.out).mono ?_); (case side1 => first | exact hG | exact Go.Proofs.YtngeelpfbajppaaDoor.Bs.Gl.below hG (by repeat (first | (with_reducible first | exact HB.out | apply below_alloc | apply pw_below_drewN | apply below_drew1) | exact HB.out)) | (repeat (first | exact hG | refine Go.Proofs.YtngeelpfbajppaaDoor.Bs.Gl.drewN ?_ _))); rintro e w9 ⟨v104, rfl, ho0, hb⟩; have n0_ := Aside0.mk (Kd.R_lower ho0 (below_size (by repeat (first | (with_reducible first | exact HB.out | apply below_alloc | apply pw_below_drewN | apply below_drew1) | exact HB.out)))); have n1_ := Aside0.mk (below_step (by repeat (first | (with_reducible first | exact HB.out | apply below_alloc | apply pw_below_drewN | apply below_drew1) | exact HB.out)) hb); clear HB; have HO105 := n0_; have HB := n1_; clear n0_ n1_; (try clear hb); (try clear hb2); (try clear hk); (try clear hi); (try clear ho0)) | (go_at_call 8; (with_reducible refine (lex_Words.calls k a1 t106 t107 t108 _ ?side1 A4.out).mono ?_); (case side1 => first | exact hG | exact Go.Proofs.YtngeelpfbajppaaDoor.Bs.Gl.below hG (by repeat (first | (with_reducible first | exact HB.out | apply below_alloc | apply pw_below_drewN | apply below_drew1) | exact HB.out)) | (repeat (first | exact hG | refine Go.Proofs.YtngeelpfbajppaaDoor.Bs.Gl.drewN ?_ _))); rintro e w10 ⟨v109, rfl, ho0, hb⟩; have n0_ := Aside0.mk (Kd.R_elder' (by (with_reducible repeat (first | apply Kd.R_alloc | apply Kd.R_drewN | apply Kd.R_drew)); exact HO105.out) (Kd.R_base ho0) hb); have n1_ := Aside0.mk (Kd.R_lower (Kd.R_new' ho0 (Kd.R_lt (by (with_reducible repeat (first | apply Kd.R_alloc | apply Kd.R_drewN | apply Kd.R_drew)); exact HO105.out))) (below_size (by repeat (first | (with_reducible first | exact HB.out | apply below_alloc | apply pw_below_drewN | apply below_drew1) | exact HB.out)))); have n2_ := Aside0.mk (below_step (by repeat (first | (with_reducible first | exact HB.out | apply below_alloc | apply pw_below_drewN | apply below_drew1) | exact HB.out)) hb); clear HO105; clear HB; have HO105 := n0_; have HO110 := n1_; have HB := n2_; clear n0_ n1_ n2_; (try clear hb); (try clear hb2); (try clear hk); (try clear hi); (try clear ho0)) | (go_at_call 8; (with_reducible refine (lex_Words.calls k ((a0 ++ (⟨#[32]⟩ : ByteArray)) ++ a1) t111 t112 t113 _ ?side1 A7.out).mono ?_); (case side1 => first | exact hG | exact Go.Proofs.YtngeelpfbajppaaDoor.Bs.Gl.below hG (by repeat (first | (with_reducible first | exact HB.out | apply below_alloc | apply pw_below_drewN | apply below_drew1) | exact HB.out)) | (repeat (first | exact hG | refine Go.Proofs.YtngeelpfbajppaaDoor.Bs.Gl.drewN ?_ _))); rintro e w11 ⟨v114, rfl, ho0, hb⟩; have n0_ := Aside0.mk (Kd.R_elder' (by (with_reducible repeat (first | apply Kd.R_alloc | apply Kd.R_drewN | apply Kd.R_drew)); exact HO105.out) (Kd.R_base ho0) hb); have n1_ := Aside0.mk (Kd.R_elder' (by (with_reducible repeat (first | apply Kd.R_alloc | apply Kd.R_drewN | apply Kd.R_drew)); exact HO110.out) (Kd.R_base ho0) hb); have n2_ := Aside0.mk (Kd.R_lower (Kd.R_new' (Kd.R_new' ho0 (Kd.R_lt (by (with_reducible repeat (first | apply Kd.R_alloc | apply Kd.R_drewN | apply Kd.R_drew)); exact HO105.out))) (Kd.R_lt (by (with_reducible repeat (first | apply Kd.R_alloc | apply Kd.R_drewN | apply Kd.R_drew)); exact HO110.out))) (below_size (by repeat (first | (with_reducible first | exact HB.out | apply below_alloc | apply pw_below_drewN | apply below_drew1) | exact HB.out)))); have n3_ := Aside0.mk (below_step (by repeat (first | (with_reducible first | exact HB.out | apply below_alloc | apply pw_below_drewN | apply below_drew1) | exact HB.out)) hb); clear HO105; clear HO110; clear HB; have HO105 := n0_; have HO110 := n1_; have HO115 := n2_; have HB := n3_; clear n0_ n1_ n2_ n3_; (try clear hb); (try clear hb2); (try clear hk); (try clear hi); (try clear ho0)))
      repeat (go_quiet (first | (go_at_call 8; (with_reducible refine (lex_Words.calls k a0 t101 t102 t103 _ ?side1 A3.out).mono ?_); (case side1 => first | exact hG | exact Go.Proofs.YtngeelpfbajppaaDoor.Bs.Gl.below hG (by repeat (first | (with_reducible first | exact HB.out | apply below_alloc | apply pw_below_drewN | apply below_drew1) | exact HB.out)) | (repeat (first | exact hG | refine Go.Proofs.YtngeelpfbajppaaDoor.Bs.Gl.drewN ?_ _))); rintro e w9 ⟨v104, rfl, ho0, hb⟩; have n0_ := Aside0.mk (Kd.R_lower ho0 (below_size (by repeat (first | (with_reducible first | exact HB.out | apply below_alloc | apply pw_below_drewN | apply below_drew1) | exact HB.out)))); have n1_ := Aside0.mk (below_step (by repeat (first | (with_reducible first | exact HB.out | apply below_alloc | apply pw_below_drewN | apply below_drew1) | exact HB.out)) hb); clear HB; have HO105 := n0_; have HB := n1_; clear n0_ n1_; (try clear hb); (try clear hb2); (try clear hk); (try clear hi); (try clear ho0)) | (go_at_call 8; (with_reducible refine (lex_Words.calls k a1 t106 t107 t108 _ ?side1 A4.out).mono ?_); (case side1 => first | exact hG | exact Go.Proofs.YtngeelpfbajppaaDoor.Bs.Gl.below hG (by repeat (first | (with_reducible first | exact HB.out | apply below_alloc | apply pw_below_drewN | apply below_drew1) | exact HB.out)) | (repeat (first | exact hG | refine Go.Proofs.YtngeelpfbajppaaDoor.Bs.Gl.drewN ?_ _))); rintro e w10 ⟨v109, rfl, ho0, hb⟩; have n0_ := Aside0.mk (Kd.R_elder' (by (with_reducible repeat (first | apply Kd.R_alloc | apply Kd.R_drewN | apply Kd.R_drew)); exact HO105.out) (Kd.R_base ho0) hb); have n1_ := Aside0.mk (Kd.R_lower (Kd.R_new' ho0 (Kd.R_lt (by (with_reducible repeat (first | apply Kd.R_alloc | apply Kd.R_drewN | apply Kd.R_drew)); exact HO105.out))) (below_size (by repeat (first | (with_reducible first | exact HB.out | apply below_alloc | apply pw_below_drewN | apply below_drew1) | exact HB.out)))); have n2_ := Aside0.mk (below_step (by repeat (first | (with_reducible first | exact HB.out | apply below_alloc | apply pw_below_drewN | apply below_drew1) | exact HB.out)) hb); clear HO105; clear HB; have HO105 := n0_; have HO110 := n1_; have HB := n2_; clear n0_ n1_ n2_; (try clear hb); (try clear hb2); (try clear hk); (try clear hi); (try clear ho0)) | (go_at_call 8; (with_reducible refine (lex_Words.calls k ((a0 ++ (⟨#[32]⟩ : ByteArray)) ++ a1) t111 t112 t113 _ ?side1 A7.out).mono ?_); (case side1 => first | exact hG | exact Go.Proofs.YtngeelpfbajppaaDoor.Bs.Gl.below hG (by repeat (first | (with_reducible first | exact HB.out | apply below_alloc | apply pw_below_drewN | apply below_drew1) | exact HB.out)) | (repeat (first | exact hG | refine Go.Proofs.YtngeelpfbajppaaDoor.Bs.Gl.drewN ?_ _))); rintro e w11 ⟨v114, rfl, ho0, hb⟩; have n0_ := Aside0.mk (Kd.R_elder' (by (with_reducible repeat (first | apply Kd.R_alloc | apply Kd.R_drewN | apply Kd.R_drew)); exact HO105.out) (Kd.R_base ho0) hb); have n1_ := Aside0.mk (Kd.R_elder' (by (with_reducible repeat (first | apply Kd.R_alloc | apply Kd.R_drewN | apply Kd.R_drew)); exact HO110.out) (Kd.R_base ho0) hb); have n2_ := Aside0.mk (Kd.R_lower (Kd.R_new' (Kd.R_new' ho0 (Kd.R_lt (by (with_reducible repeat (first | apply Kd.R_alloc | apply Kd.R_drewN | apply Kd.R_drew)); exact HO105.out))) (Kd.R_lt (by (with_reducible repeat (first | apply Kd.R_alloc | apply Kd.R_drewN | apply Kd.R_drew)); exact HO110.out))) (below_size (by repeat (first | (with_reducible first | exact HB.out | apply below_alloc | apply pw_below_drewN | apply below_drew1) | exact HB.out)))); have n3_ := Aside0.mk (below_step (by repeat (first | (with_reducible first | exact HB.out | apply below_alloc | apply pw_below_drewN | apply below_drew1) | exact HB.out)) hb); clear HO105; clear HO110; clear HB; have HO105 := n0_; have HO110 := n1_; have HO115 := n2_; have HB := n3_; clear n0_ n1_ n2_ n3_; (try clear hb); (try clear hb2); (try clear hk); (try clear hi); (try clear ho0))); go_upto_region 4 with (first | (go_at_call 8; (with_reducible refine (lex_Words.calls k a0 t101 t102 t103 _ ?side1 A3.out).mono ?_); (case side1 => first | exact hG | exact Go.Proofs.YtngeelpfbajppaaDoor.Bs.Gl.below hG (by repeat (first | (with_reducible first | exact HB.out | apply below_alloc | apply pw_below_drewN | apply below_drew1) | exact HB.out)) | (repeat (first | exact hG | refine Go.Proofs.YtngeelpfbajppaaDoor.Bs.Gl.drewN ?_ _))); rintro e w9 ⟨v104, rfl, ho0, hb⟩; have n0_ := Aside0.mk (Kd.R_lower ho0 (below_size (by repeat (first | (with_reducible first | exact HB.out | apply below_alloc | apply pw_below_drewN | apply below_drew1) | exact HB.out)))); have n1_ := Aside0.mk (below_step (by repeat (first | (with_reducible first | exact HB.out | apply below_alloc | apply pw_below_drewN | apply below_drew1) | exact HB.out)) hb); clear HB; have HO105 := n0_; have HB := n1_; clear n0_ n1_; (try clear hb); (try clear hb2); (try clear hk); (try clear hi); (try clear ho0)) | (go_at_call 8; (with_reducible refine (lex_Words.calls k a1 t106 t107 t108 _ ?side1 A4.out).mono ?_); (case side1 => first | exact hG | exact Go.Proofs.YtngeelpfbajppaaDoor.Bs.Gl.below hG (by repeat (first | (with_reducible first | exact HB.out | apply below_alloc | apply pw_below_drewN | apply below_drew1) | exact HB.out)) | (repeat (first | exact hG | refine Go.Proofs.YtngeelpfbajppaaDoor.Bs.Gl.drewN ?_ _))); rintro e w10 ⟨v109, rfl, ho0, hb⟩; have n0_ := Aside0.mk (Kd.R_elder' (by (with_reducible repeat (first | apply Kd.R_alloc | apply Kd.R_drewN | apply Kd.R_drew)); exact HO105.out) (Kd.R_base ho0) hb); have n1_ := Aside0.mk (Kd.R_lower (Kd.R_new' ho0 (Kd.R_lt (by (with_reducible repeat (first | apply Kd.R_alloc | apply Kd.R_drewN | apply Kd.R_drew)); exact HO105.out))) (below_size (by repeat (first | (with_reducible first | exact HB.out | apply below_alloc | apply pw_below_drewN | apply below_drew1) | exact HB.out)))); have n2_ := Aside0.mk (below_step (by repeat (first | (with_reducible first | exact HB.out | apply below_alloc | apply pw_below_drewN | apply below_drew1) | exact HB.out)) hb); clear HO105; clear HB; have HO105 := n0_; have HO110 := n1_; have HB := n2_; clear n0_ n1_ n2_; (try clear hb); (try clear hb2); (try clear hk); (try clear hi); (try clear ho0)) | (go_at_call 8; (with_reducible refine (lex_Words.calls k ((a0 ++ (⟨#[32]⟩ : ByteArray)) ++ a1) t111 t112 t113 _ ?side1 A7.out).mono ?_); (case side1 => first | exact hG | exact Go.Proofs.YtngeelpfbajppaaDoor.Bs.Gl.below hG (by repeat (first | (with_reducible first | exact HB.out | apply below_alloc | apply pw_below_drewN | apply below_drew1) | exact HB.out)) | (repeat (first | exact hG | refine Go.Proofs.YtngeelpfbajppaaDoor.Bs.Gl.drewN ?_ _))); rintro e w11 ⟨v114, rfl, ho0, hb⟩; have n0_ := Aside0.mk (Kd.R_elder' (by (with_reducible repeat (first | apply Kd.R_alloc | apply Kd.R_drewN | apply Kd.R_drew)); exact HO105.out) (Kd.R_base ho0) hb); have n1_ := Aside0.mk (Kd.R_elder' (by (with_reducible repeat (first | apply Kd.R_alloc | apply Kd.R_drewN | apply Kd.R_drew)); exact HO110.out) (Kd.R_base ho0) hb); have n2_ := Aside0.mk (Kd.R_lower (Kd.R_new' (Kd.R_new' ho0 (Kd.R_lt (by (with_reducible repeat (first | apply Kd.R_alloc | apply Kd.R_drewN | apply Kd.R_drew)); exact HO105.out))) (Kd.R_lt (by (with_reducible repeat (first | apply Kd.R_alloc | apply Kd.R_drewN | apply Kd.R_drew)); exact HO110.out))) (below_size (by repeat (first | (with_reducible first | exact HB.out | apply below_alloc | apply pw_below_drewN | apply below_drew1) | exact HB.out)))); have n3_ := Aside0.mk (below_step (by repeat (first | (with_reducible first | exact HB.out | apply below_alloc | apply pw_below_drewN | apply below_drew1) | exact HB.out)) hb); clear HO105; clear HO110; clear HB; have HO105 := n0_; have HO110 := n1_; have HO115 := n2_; have HB := n3_; clear n0_ n1_ n2_ n3_; (try clear hb); (try clear hb2); (try clear hk); (try clear hi); (try clear ho0))))
      (try simp only [Act.put, List.setIfInBounds_toArray, List.set_cons_zero, List.set_cons_succ])
      go_cut [48] (fun v48 wc => ∃ (kq : Nat) (x48_7 : Bool), v48 = .bool x48_7 ∧ Aside0 (instarlaw08_LexJoins.j0 kq a0 t101 t106 t107 t108 t111 t112 t113 x48_7 = some r) ∧ Aside0 (kq ≤ k) ∧ Aside0 (Kd.R k35 35 wc w.heap.size (fun k_ => some k_ ≠ (v109 : Value).ownBlock ∧ some k_ ≠ (v114 : Value).ownBlock) v104 t101) ∧ Aside0 (Kd.R k35 35 wc w.heap.size (fun k_ => some k_ ≠ (v104 : Value).ownBlock ∧ some k_ ≠ (v114 : Value).ownBlock) v109 t106) ∧ Aside0 (Kd.R k35 35 wc w.heap.size (fun k_ => some k_ ≠ (v104 : Value).ownBlock ∧ some k_ ≠ (v109 : Value).ownBlock) v114 t111) ∧ Aside0 (Below w.heap.size w wc))
      case first =>
        have H := HC8.out
        clear HC8
        by_cases c12 : (a0.size : Int) > 300
        · rw [if_pos c12] at H
          have c12b0 : decide (300 < (a0.size : Int)) = true := decide_eq_true c12
          have c12b1 : decide (300 < a0.size) = true := decide_eq_true (by omega)
          clear c12
          (first | rw [c12b0] | (simp only [i64_w, i32_w]; rw [c12b0]) | skip)
          have H' := Aside0.mk H
          clear H
          go_wp2
          repeat (go_quiet (fail); try go_wp2)
          go_meet
          case rel => exact ⟨_, (true), (by first | rfl | (simp; done) | (simp [*]; done) | (simp [Go.Proofs.YtngeelpfbajppaaDoor.Bs.isEmpty_bne, Go.Proofs.YtngeelpfbajppaaDoor.Bs.isEmpty_beq]; done)), H', ⟨by first | omega | exact Nat.le_refl _⟩, ⟨by (with_reducible repeat (first | apply Kd.R_alloc | apply Kd.R_drewN | apply Kd.R_drew)); exact Kd.R_mono HO105.out (fun _ hk => ⟨hk.1.2, hk.2⟩)⟩, ⟨by (with_reducible repeat (first | apply Kd.R_alloc | apply Kd.R_drewN | apply Kd.R_drew)); exact Kd.R_mono HO110.out (fun _ hk => ⟨hk.1.2, hk.2⟩)⟩, ⟨by (with_reducible repeat (first | apply Kd.R_alloc | apply Kd.R_drewN | apply Kd.R_drew)); exact Kd.R_mono HO115.out (fun _ hk => ⟨hk.1.2, hk.2⟩)⟩, ⟨by repeat (first | (with_reducible first | exact HB.out | apply below_alloc | apply pw_below_drewN | apply below_drew1) | exact HB.out)⟩⟩
        · rw [if_neg c12] at H
          have c12b0 : decide (300 < (a0.size : Int)) = false := decide_eq_false c12
          have c12b1 : decide (300 < a0.size) = false := decide_eq_false (by omega)
          clear c12
          (first | rw [c12b0] | (simp only [i64_w, i32_w]; rw [c12b0]) | skip)
          by_cases c13 : (a1.size : Int) > 300
          · rw [if_pos c13] at H
            have c13b0 : decide (300 < (a1.size : Int)) = true := decide_eq_true c13
            have c13b1 : decide (300 < a1.size) = true := decide_eq_true (by omega)
            clear c13
            have H' := Aside0.mk H
            clear H
            go_wp2
            repeat (go_quiet (fail); try go_wp2)
            go_meet
            case rel => exact ⟨_, (true), (by first | rfl | (simp; done) | (simp [*]; done) | (simp [Go.Proofs.YtngeelpfbajppaaDoor.Bs.isEmpty_bne, Go.Proofs.YtngeelpfbajppaaDoor.Bs.isEmpty_beq]; done)), H', ⟨by first | omega | exact Nat.le_refl _⟩, ⟨by (with_reducible repeat (first | apply Kd.R_alloc | apply Kd.R_drewN | apply Kd.R_drew)); exact Kd.R_mono HO105.out (fun _ hk => ⟨hk.1.2, hk.2⟩)⟩, ⟨by (with_reducible repeat (first | apply Kd.R_alloc | apply Kd.R_drewN | apply Kd.R_drew)); exact Kd.R_mono HO110.out (fun _ hk => ⟨hk.1.2, hk.2⟩)⟩, ⟨by (with_reducible repeat (first | apply Kd.R_alloc | apply Kd.R_drewN | apply Kd.R_drew)); exact Kd.R_mono HO115.out (fun _ hk => ⟨hk.1.2, hk.2⟩)⟩, ⟨by repeat (first | (with_reducible first | exact HB.out | apply below_alloc | apply pw_below_drewN | apply below_drew1) | exact HB.out)⟩⟩
          · rw [if_neg c13] at H
            have c13b0 : decide (300 < (a1.size : Int)) = false := decide_eq_false c13
            have c13b1 : decide (300 < a1.size) = false := decide_eq_false (by omega)
            clear c13
            have H' := Aside0.mk H
            clear H
            go_wp2
            repeat (go_quiet (fail); try go_wp2)
            go_meet
            case rel => exact ⟨_, ((t103 != 0)), (by first | rfl | (simp; done) | (simp [*]; done) | (simp [Go.Proofs.YtngeelpfbajppaaDoor.Bs.isEmpty_bne, Go.Proofs.YtngeelpfbajppaaDoor.Bs.isEmpty_beq]; done)), H', ⟨by first | omega | exact Nat.le_refl _⟩, ⟨by (with_reducible repeat (first | apply Kd.R_alloc | apply Kd.R_drewN | apply Kd.R_drew)); exact Kd.R_mono HO105.out (fun _ hk => ⟨hk.1.2, hk.2⟩)⟩, ⟨by (with_reducible repeat (first | apply Kd.R_alloc | apply Kd.R_drewN | apply Kd.R_drew)); exact Kd.R_mono HO110.out (fun _ hk => ⟨hk.1.2, hk.2⟩)⟩, ⟨by (with_reducible repeat (first | apply Kd.R_alloc | apply Kd.R_drewN | apply Kd.R_drew)); exact Kd.R_mono HO115.out (fun _ hk => ⟨hk.1.2, hk.2⟩)⟩, ⟨by repeat (first | (with_reducible first | exact HB.out | apply below_alloc | apply pw_below_drewN | apply below_drew1) | exact HB.out)⟩⟩
      case rest =>
        clear HC8
        try clear c1
        try clear p2
        try clear c5
        try clear c5b0
        try clear c5b1
        try clear c5b2
        try clear c6
        try clear c6b0
        try clear c6b1
        try clear c6b2
        try clear c12
        try clear c12b0
        try clear c12b1
        try clear c13
        try clear c13b0
        try clear c13b1
        obtain ⟨kq, x48_7, rfl, HA, HJ7, HO_5, HO_8, HO_11, HB⟩ := hcut
        cases kq with
        | zero => exact absurd HA.out (by simp [instarlaw08_LexJoins.j0])
        | succ kj7 =>
          have H := HA.out
          clear HA
          simp only [instarlaw08_LexJoins.j0] at H
          by_cases c14 : x48_7 = true
          · subst c14
            have H1 : ((instarlaw08_alive.f kj7).bind fun t116 => (some t116)) = some r := by rw [if_pos rfl] at H; exact H
            clear H
            have H := H1
            clear H1
            replace H := Option.bind_eq_some_iff.mp H
            obtain ⟨t116, A150, H⟩ := H
            replace H : (some t116) = some r := H
            have A15 := Aside0.mk A150
            clear A150
            obtain rfl := Option.some.inj H
            go_wp2_with (first | (go_at_call 7; (with_reducible refine (instarlaw08_alive.calls kj7  t116 _ ?side1 A15.out).mono ?_); (case side1 => first | exact hG | exact Go.Proofs.YtngeelpfbajppaaDoor.Bs.Gl.below hG (by repeat (first | (with_reducible first | exact HB.out | apply below_alloc | apply pw_below_drewN | apply below_drew1) | exact HB.out)) | (repeat (first | exact hG | refine Go.Proofs.YtngeelpfbajppaaDoor.Bs.Gl.drewN ?_ _))); rintro e w16 ⟨rfl, hb⟩; have n0_ := Aside0.mk (Kd.R_below (by (with_reducible repeat (first | apply Kd.R_alloc | apply Kd.R_drewN | apply Kd.R_drew)); exact HO_5.out) hb); have n1_ := Aside0.mk (Kd.R_below (by (with_reducible repeat (first | apply Kd.R_alloc | apply Kd.R_drewN | apply Kd.R_drew)); exact HO_8.out) hb); have n2_ := Aside0.mk (Kd.R_below (by (with_reducible repeat (first | apply Kd.R_alloc | apply Kd.R_drewN | apply Kd.R_drew)); exact HO_11.out) hb); have n3_ := Aside0.mk (below_step (by repeat (first | (with_reducible first | exact HB.out | apply below_alloc | apply pw_below_drewN | apply below_drew1) | exact HB.out)) hb); clear HO_5; clear HO_8; clear HO_11; clear HB; have HO_5 := n0_; have HO_8 := n1_; have HO_11 := n2_; have HB := n3_; clear n0_ n1_ n2_ n3_; (try clear hb); (try clear hb2); (try clear hk); (try clear hi)))
            repeat (go_quiet (first | (go_at_call 7; (with_reducible refine (instarlaw08_alive.calls kj7  t116 _ ?side1 A15.out).mono ?_); (case side1 => first | exact hG | exact Go.Proofs.YtngeelpfbajppaaDoor.Bs.Gl.below hG (by repeat (first | (with_reducible first | exact HB.out | apply below_alloc | apply pw_below_drewN | apply below_drew1) | exact HB.out)) | (repeat (first | exact hG | refine Go.Proofs.YtngeelpfbajppaaDoor.Bs.Gl.drewN ?_ _))); rintro e w16 ⟨rfl, hb⟩; have n0_ := Aside0.mk (Kd.R_below (by (with_reducible repeat (first | apply Kd.R_alloc | apply Kd.R_drewN | apply Kd.R_drew)); exact HO_5.out) hb); have n1_ := Aside0.mk (Kd.R_below (by (with_reducible repeat (first | apply Kd.R_alloc | apply Kd.R_drewN | apply Kd.R_drew)); exact HO_8.out) hb); have n2_ := Aside0.mk (Kd.R_below (by (with_reducible repeat (first | apply Kd.R_alloc | apply Kd.R_drewN | apply Kd.R_drew)); exact HO_11.out) hb); have n3_ := Aside0.mk (below_step (by repeat (first | (with_reducible first | exact HB.out | apply below_alloc | apply pw_below_drewN | apply below_drew1) | exact HB.out)) hb); clear HO_5; clear HO_8; clear HO_11; clear HB; have HO_5 := n0_; have HO_8 := n1_; have HO_11 := n2_; have HB := n3_; clear n0_ n1_ n2_ n3_; (try clear hb); (try clear hb2); (try clear hk); (try clear hi))); try go_wp2_with (first | (go_at_call 7; (with_reducible refine (instarlaw08_alive.calls kj7  t116 _ ?side1 A15.out).mono ?_); (case side1 => first | exact hG | exact Go.Proofs.YtngeelpfbajppaaDoor.Bs.Gl.below hG (by repeat (first | (with_reducible first | exact HB.out | apply below_alloc | apply pw_below_drewN | apply below_drew1) | exact HB.out)) | (repeat (first | exact hG | refine Go.Proofs.YtngeelpfbajppaaDoor.Bs.Gl.drewN ?_ _))); rintro e w16 ⟨rfl, hb⟩; have n0_ := Aside0.mk (Kd.R_below (by (with_reducible repeat (first | apply Kd.R_alloc | apply Kd.R_drewN | apply Kd.R_drew)); exact HO_5.out) hb); have n1_ := Aside0.mk (Kd.R_below (by (with_reducible repeat (first | apply Kd.R_alloc | apply Kd.R_drewN | apply Kd.R_drew)); exact HO_8.out) hb); have n2_ := Aside0.mk (Kd.R_below (by (with_reducible repeat (first | apply Kd.R_alloc | apply Kd.R_drewN | apply Kd.R_drew)); exact HO_11.out) hb); have n3_ := Aside0.mk (below_step (by repeat (first | (with_reducible first | exact HB.out | apply below_alloc | apply pw_below_drewN | apply below_drew1) | exact HB.out)) hb); clear HO_5; clear HO_8; clear HO_11; clear HB; have HO_5 := n0_; have HO_8 := n1_; have HO_11 := n2_; have HB := n3_; clear n0_ n1_ n2_ n3_; (try clear hb); (try clear hb2); (try clear hk); (try clear hi))))
            go_ret
            exact ⟨by first | rfl | (simp [errW_none, errW_some] <;> rfl) | (simp [*, errW_none, errW_some] <;> rfl), by repeat (first | (with_reducible first | exact HB.out | apply below_alloc | apply pw_below_drewN | apply below_drew1) | exact HB.out)⟩
          · replace c14 := Bool.eq_false_iff.mpr c14
            subst c14
            have H1 : (if t108 = 0 then (if t113 = 0 then (instarlaw08_LexJoins.j1 kj7 a0 t101 t106 t111 ((t111.length : Int) != (wrap64 ((t101.length : Int) + (t106.length : Int))))) else (instarlaw08_LexJoins.j1 kj7 a0 t101 t106 t111 true)) else ((instarlaw08_alive.f kj7).bind fun t117 => (if t117 = true then (if t113 = t108 then (some (t112 == (wrap64 ((wrap64 (t107 + (a0.size : Int))) + 1)))) else (some false)) else (some false)))) = some r := by rw [if_neg (show ¬ (false = true) by decide)] at H; exact H
            clear H
            have H := H1
            clear H1
            by_cases c17 : t108 = 0
            · rw [if_pos c17] at H
              have c17b0 : (t108 == 0) = true := beq_iff_eq.mpr c17
              have c17b1 : (t108 != 0) = false := bne_eq_false_iff_eq.mpr c17
              clear c17
              have HC18 := Aside0.mk H
              clear H
              go_upto_region 8 with (fail)
              repeat (go_quiet (fail); go_upto_region 8 with (fail))
              go_cut [78] (fun v78 wc => ∃ (kq : Nat) (x78_17 : Bool), v78 = .bool x78_17 ∧ Aside0 (instarlaw08_LexJoins.j1 kq a0 t101 t106 t111 x78_17 = some r) ∧ Aside0 (kq ≤ kj7) ∧ Aside0 (Kd.R k35 35 wc w.heap.size (fun k_ => some k_ ≠ (v109 : Value).ownBlock ∧ some k_ ≠ (v114 : Value).ownBlock) v104 t101) ∧ Aside0 (Kd.R k35 35 wc w.heap.size (fun k_ => some k_ ≠ (v104 : Value).ownBlock ∧ some k_ ≠ (v114 : Value).ownBlock) v109 t106) ∧ Aside0 (Kd.R k35 35 wc w.heap.size (fun k_ => some k_ ≠ (v104 : Value).ownBlock ∧ some k_ ≠ (v109 : Value).ownBlock) v114 t111) ∧ Aside0 (Below w.heap.size w wc))
              case first =>
                have H := HC18.out
                clear HC18
                by_cases c19 : t113 = 0
                · rw [if_pos c19] at H
                  have c19b0 : (t113 == 0) = true := beq_iff_eq.mpr c19
                  have c19b1 : (t113 != 0) = false := bne_eq_false_iff_eq.mpr c19
                  clear c19
                  (first | rw [c19b0] | (simp only [i64_w, i32_w]; rw [c19b0]) | skip)
                  have H' := Aside0.mk H
                  clear H
                  obtain ⟨Ao20, co20, eo20⟩ := Kd.R_slice HO_11.out
                  subst eo20
                  obtain ⟨Ao21, co21, eo21⟩ := Kd.R_slice HO_5.out
                  subst eo21
                  obtain ⟨Ao22, co22, eo22⟩ := Kd.R_slice HO_8.out
                  subst eo22
                  go_wp2
                  repeat (go_quiet (fail); try go_wp2)
                  go_meet
                  case rel => exact ⟨_, (((t111.length : Int) != (wrap64 ((t101.length : Int) + (t106.length : Int))))), (by first | rfl | (simp; done) | (simp [*]; done) | (simp [Go.Proofs.YtngeelpfbajppaaDoor.Bs.isEmpty_bne, Go.Proofs.YtngeelpfbajppaaDoor.Bs.isEmpty_beq]; done)), H', ⟨by have := HJ7.out; first | omega | exact Nat.le_refl _⟩, ⟨by (with_reducible repeat (first | apply Kd.R_alloc | apply Kd.R_drewN | apply Kd.R_drew)); exact HO_5.out⟩, ⟨by (with_reducible repeat (first | apply Kd.R_alloc | apply Kd.R_drewN | apply Kd.R_drew)); exact HO_8.out⟩, ⟨by (with_reducible repeat (first | apply Kd.R_alloc | apply Kd.R_drewN | apply Kd.R_drew)); exact HO_11.out⟩, ⟨by repeat (first | (with_reducible first | exact HB.out | apply below_alloc | apply pw_below_drewN | apply below_drew1) | exact HB.out)⟩⟩
                · rw [if_neg c19] at H
                  have c19b0 : (t113 == 0) = false := beq_eq_false_iff_ne.mpr c19
                  have c19b1 : (t113 != 0) = true := bne_iff_ne.mpr c19
                  (first | rw [c19b0] | (simp only [i64_w, i32_w]; rw [c19b0]) | skip)
                  have H' := Aside0.mk H
                  clear H
                  go_wp2
                  repeat (go_quiet (fail); try go_wp2)
                  go_meet
                  case rel => exact ⟨_, (true), (by first | rfl | (simp; done) | (simp [*]; done) | (simp [Go.Proofs.YtngeelpfbajppaaDoor.Bs.isEmpty_bne, Go.Proofs.YtngeelpfbajppaaDoor.Bs.isEmpty_beq]; done)), H', ⟨by have := HJ7.out; first | omega | exact Nat.le_refl _⟩, ⟨by (with_reducible repeat (first | apply Kd.R_alloc | apply Kd.R_drewN | apply Kd.R_drew)); exact HO_5.out⟩, ⟨by (with_reducible repeat (first | apply Kd.R_alloc | apply Kd.R_drewN | apply Kd.R_drew)); exact HO_8.out⟩, ⟨by (with_reducible repeat (first | apply Kd.R_alloc | apply Kd.R_drewN | apply Kd.R_drew)); exact HO_11.out⟩, ⟨by repeat (first | (with_reducible first | exact HB.out | apply below_alloc | apply pw_below_drewN | apply below_drew1) | exact HB.out)⟩⟩
              case rest =>
                clear HC18
                try clear c1
                try clear p2
                try clear c5
                try clear c5b0
                try clear c5b1
                try clear c5b2
                try clear c6
                try clear c6b0
                try clear c6b1
                try clear c6b2
                try clear p6
                try clear c12
                try clear c12b0
                try clear c12b1
                try clear c13
                try clear c13b0
                try clear c13b1
                try clear c14
                try clear c17
                try clear c17b0
                try clear c17b1
                try clear c19
                try clear c19b0
                try clear c19b1
                try clear p2
                obtain ⟨kq, x78_17, rfl, HA, HJ17, HO_5, HO_8, HO_11, HB⟩ := hcut
                cases kq with
                | zero => exact absurd HA.out (by simp [instarlaw08_LexJoins.j1])
                | succ kj17 =>
                  have H := HA.out
                  clear HA
                  simp only [instarlaw08_LexJoins.j1] at H
                  by_cases c23 : x78_17 = true
                  · subst c23
                    have H1 : (some false) = some r := by rw [if_pos rfl] at H; exact H
                    clear H
                    have H := H1
                    clear H1
                    exact absurd ((Option.some.inj H).trans hr_.out) (by decide)
                  · replace c23 := Bool.eq_false_iff.mpr c23
                    subst c23
                    have H1 : (instarlaw08_LexJoins.l0 kj17 a0 t101 t106 t111 0) = some r := by rw [if_neg (show ¬ (false = true) by decide)] at H; exact H
                    clear H
                    have H := H1
                    clear H1
                    have H' := Aside0.mk H
                    clear H
                    go_wp2
                    repeat (go_quiet (fail); try go_wp2)
                    go_loopg [14] kj17 (fun kq v14 w' => ∃ (x14_3 : Int), v14 = .int .i64 x14_3 ∧ Aside0 (instarlaw08_LexJoins.l0 kq a0 t101 t106 t111 x14_3 = some r) ∧ Aside0 (kq ≤ kj17) ∧ Aside0 (Kd.R k35 35 w' w.heap.size (fun k_ => some k_ ≠ (v109 : Value).ownBlock ∧ some k_ ≠ (v114 : Value).ownBlock) v104 t101) ∧ Aside0 (Kd.R k35 35 w' w.heap.size (fun k_ => some k_ ≠ (v104 : Value).ownBlock ∧ some k_ ≠ (v114 : Value).ownBlock) v109 t106) ∧ Aside0 (Kd.R k35 35 w' w.heap.size (fun k_ => some k_ ≠ (v104 : Value).ownBlock ∧ some k_ ≠ (v109 : Value).ownBlock) v114 t111) ∧ Aside0 (Below w.heap.size w w'))
                    case atStart => exact ⟨(0), (by first | rfl | (simp; done) | (simp [*]; done) | (simp [Go.Proofs.YtngeelpfbajppaaDoor.Bs.isEmpty_bne, Go.Proofs.YtngeelpfbajppaaDoor.Bs.isEmpty_beq]; done)), H', ⟨Nat.le_refl _⟩, ⟨by (with_reducible repeat (first | apply Kd.R_alloc | apply Kd.R_drewN | apply Kd.R_drew)); exact HO_5.out⟩, ⟨by (with_reducible repeat (first | apply Kd.R_alloc | apply Kd.R_drewN | apply Kd.R_drew)); exact HO_8.out⟩, ⟨by (with_reducible repeat (first | apply Kd.R_alloc | apply Kd.R_drewN | apply Kd.R_drew)); exact HO_11.out⟩, ⟨by repeat (first | (with_reducible first | exact HB.out | apply below_alloc | apply pw_below_drewN | apply below_drew1) | exact HB.out)⟩⟩
                    case round =>
                      clear H'
                      try clear c1
                      try clear c2
                      try clear p2
                      try clear c5
                      try clear c5b0
                      try clear c5b1
                      try clear c5b2
                      try clear c6
                      try clear c6b0
                      try clear c6b1
                      try clear c6b2
                      try clear p6
                      try clear c12
                      try clear c12b0
                      try clear c12b1
                      try clear c13
                      try clear c13b0
                      try clear c13b1
                      try clear c14
                      try clear c17
                      try clear c17b0
                      try clear c17b1
                      try clear c19
                      try clear c19b0
                      try clear c19b1
                      try clear c23
                      try clear p2
                      try clear p6
                      obtain ⟨x14_3, rfl, HA, HK3, HO_5, HO_8, HO_11, HB⟩ := hrel
                      cases gk with
                      | zero => exact absurd HA.out (by simp [instarlaw08_LexJoins.l0])
                      | succ k3 =>
                        have H := HA.out
                        clear HA
                        simp only [instarlaw08_LexJoins.l0] at H
                        by_cases c24 : x14_3 < (t111.length : Int)
                        · rw [if_pos c24] at H
                          have c24b0 : decide (x14_3 < (t111.length : Int)) = true := decide_eq_true c24
                          clear c24
                          by_cases c25 : x14_3 < (t101.length : Int)
                          · rw [if_pos c25] at H
                            have c25b0 : decide (x14_3 < (t101.length : Int)) = true := decide_eq_true c25
                            clear c25
                            by_cases c26 : 0 ≤ x14_3
                            · rw [if_pos c26] at H
                              have c26b0 : decide (0 ≤ x14_3) = true := decide_eq_true c26
                              clear c26
                              by_cases c27 : (!(((rd_T35 t111 x14_3).f0) == ((rd_T35 t101 x14_3).f0)) || (!((((rd_T35 t111 x14_3).f1).toList) == (((rd_T35 t101 x14_3).f1).toList)) || (!(((rd_T35 t111 x14_3).f2) == ((rd_T35 t101 x14_3).f2))))) = true
                              · rw [if_pos c27] at H
                                have c27b0 : (!(((rd_T35 t111 x14_3).f0) == ((rd_T35 t101 x14_3).f0)) || (!((((rd_T35 t111 x14_3).f1).toList) == (((rd_T35 t101 x14_3).f1).toList)) || (!(((rd_T35 t111 x14_3).f2) == ((rd_T35 t101 x14_3).f2))))) = true := c27
                                clear c27
                                exact absurd ((Option.some.inj H).trans hr_.out) (by decide)
                              · rw [if_neg c27] at H
                                have c27b0 : (!(((rd_T35 t111 x14_3).f0) == ((rd_T35 t101 x14_3).f0)) || (!((((rd_T35 t111 x14_3).f1).toList) == (((rd_T35 t101 x14_3).f1).toList)) || (!(((rd_T35 t111 x14_3).f2) == ((rd_T35 t101 x14_3).f2))))) = false := by simpa using c27
                                clear c27
                                have H' := Aside0.mk H
                                clear H
                                obtain ⟨Ao28, co28, eo28⟩ := Kd.R_slice HO_11.out
                                subst eo28
                                go_wp2_with (first | ((with_reducible refine gate_dst (N := 15) rfl ?_); (try (refine gate_guard (by rfl) ?_; dsimp only)); refine box_event ?hg (N := 15) ?hd (cs := #[.int .i64 0, .string (⟨#[]⟩ : ByteArray), .int .i64 0]) (t := 35) ?hr ?_; (case hd => rfl); (case hg => rfl); (case hr => first | (go_simp; done) | (go_simp; rfl)); intro gb119 hg w29 hbox hb; have n0_ := Aside0.mk (Kd.R_below (Kd.R_elderB (by (with_reducible repeat (first | apply Kd.R_alloc | apply Kd.R_drewN | apply Kd.R_drew)); exact HO_5.out) gb119 (Nat.le_of_eq hg.symm)) hb); have n1_ := Aside0.mk (Kd.R_below (Kd.R_elderB (by (with_reducible repeat (first | apply Kd.R_alloc | apply Kd.R_drewN | apply Kd.R_drew)); exact HO_8.out) gb119 (Nat.le_of_eq hg.symm)) hb); have n2_ := Aside0.mk (Kd.R_below (Kd.R_elderB (by (with_reducible repeat (first | apply Kd.R_alloc | apply Kd.R_drewN | apply Kd.R_drew)); exact HO_11.out) gb119 (Nat.le_of_eq hg.symm)) hb); have n3_ := Aside0.mk (below_step (by repeat (first | (with_reducible first | exact HB.out | apply below_alloc | apply pw_below_drewN | apply below_drew1) | exact HB.out)) hb); have n4_ := Aside0.mk (hbox); have n5_ := Aside0.mk ((by rw [hg]; exact (below_size (by repeat (first | (with_reducible first | exact HB.out | apply below_alloc | apply pw_below_drewN | apply below_drew1) | exact HB.out))) : w.heap.size ≤ gb119)); have n6_ := Aside0.mk ((by rw [hg]; exact (below_size (by repeat (first | (with_reducible first | exact HB.out | apply below_alloc | apply pw_below_drewN | apply below_drew1) | exact HB.out))) : w.heap.size ≤ gb119)); clear HO_5; clear HO_8; clear HO_11; clear HB; have HO_5 := n0_; have HO_8 := n1_; have HO_11 := n2_; have HB := n3_; have BK119 := n4_; have GW119 := n5_; have GE119 := n6_; clear n0_ n1_ n2_ n3_ n4_ n5_ n6_; clear hb hbox hg; obtain ⟨Ao30, co30, eo30⟩ := Kd.R_slice HO_5.out; subst eo30; have p120 : 0 ≤ (x14_3 : Int) := of_decide_eq_true (by first | (with_reducible assumption) | assumption); have q120 : x14_3 < (t101.length : Int) := of_decide_eq_true (by first | (with_reducible assumption) | assumption); obtain ⟨ad120, e120, hx120_0, hx120_1, hx120_2⟩ := at_T35 (Kd.R_reads' HO_5.out).2.2 x14_3 p120 q120; cases e120; replace p120 := eq_true p120; replace q120 := eq_true q120; have hcz31_0 : w29.cell? ⟨gb119, 0, none⟩ = some (.int .i64 0) := (blk_cell BK119.out 0).trans rfl; have hcz31_1 : w29.cell? ⟨gb119, 1, none⟩ = some (.string (⟨#[]⟩ : ByteArray)) := (blk_cell BK119.out 1).trans rfl; have hcz31_2 : w29.cell? ⟨gb119, 2, none⟩ = some (.int .i64 0) := (blk_cell BK119.out 2).trans rfl; have hfz31_0 := blk_frozen BK119.out 0; have hfz31_1 := blk_frozen BK119.out 1; have hfz31_2 := blk_frozen BK119.out 2; have p121 : 0 ≤ (x14_3 : Int) := of_decide_eq_true (by first | (with_reducible assumption) | assumption); have q121 : x14_3 < (t111.length : Int) := of_decide_eq_true (by first | (with_reducible assumption) | assumption); obtain ⟨ad121, e121, hx121_0, hx121_1, hx121_2⟩ := at_T35 (Kd.R_reads' HO_11.out).2.2 x14_3 p121 q121; cases e121; have hn121_0 : ad121.block ≠ gb119 := Kd.own_blk (by first | exact Kd.R_ne HO_11.out BK119.out (by decide) | exact Kd.R_away HO_11.out (fun _ hk => hk.2) | exact Kd.R_away HO_11.out (fun _ hk => hk.1.2)); have hn121_1 : ad121.block ≠ gb119 := Kd.own_blk (by first | exact Kd.R_ne HO_11.out BK119.out (by decide) | exact Kd.R_away HO_11.out (fun _ hk => hk.2) | exact Kd.R_away HO_11.out (fun _ hk => hk.1.2)); have hn121_2 : ad121.block ≠ gb119 := Kd.own_blk (by first | exact Kd.R_ne HO_11.out BK119.out (by decide) | exact Kd.R_away HO_11.out (fun _ hk => hk.2) | exact Kd.R_away HO_11.out (fun _ hk => hk.1.2)); replace hx121_0 := (cell_far (p := ⟨gb119, 0, none⟩) (by first | (rw [add_block]; exact hn121_0) | (show (Addr.add _ _).block ≠ _; rw [add_block]; exact hn121_0) | exact hn121_0) (.int .i64 ((rd_T35 t101 x14_3).f0))).trans hx121_0; replace hx121_1 := (cell_far (p := ⟨gb119, 0, none⟩) (by first | (rw [add_block]; exact hn121_0) | (show (Addr.add _ _).block ≠ _; rw [add_block]; exact hn121_0) | exact hn121_0) (.int .i64 ((rd_T35 t101 x14_3).f0))).trans hx121_1; replace hx121_2 := (cell_far (p := ⟨gb119, 0, none⟩) (by first | (rw [add_block]; exact hn121_0) | (show (Addr.add _ _).block ≠ _; rw [add_block]; exact hn121_0) | exact hn121_0) (.int .i64 ((rd_T35 t101 x14_3).f0))).trans hx121_2; replace hx121_0 := (cell_far (p := ⟨gb119, 1, none⟩) (by first | (rw [add_block]; exact hn121_1) | (show (Addr.add _ _).block ≠ _; rw [add_block]; exact hn121_1) | exact hn121_1) (.string ((rd_T35 t101 x14_3).f1))).trans hx121_0; replace hx121_1 := (cell_far (p := ⟨gb119, 1, none⟩) (by first | (rw [add_block]; exact hn121_1) | (show (Addr.add _ _).block ≠ _; rw [add_block]; exact hn121_1) | exact hn121_1) (.string ((rd_T35 t101 x14_3).f1))).trans hx121_1; replace hx121_2 := (cell_far (p := ⟨gb119, 1, none⟩) (by first | (rw [add_block]; exact hn121_1) | (show (Addr.add _ _).block ≠ _; rw [add_block]; exact hn121_1) | exact hn121_1) (.string ((rd_T35 t101 x14_3).f1))).trans hx121_2; replace hx121_0 := (cell_far (p := ⟨gb119, 2, none⟩) (by first | (rw [add_block]; exact hn121_2) | (show (Addr.add _ _).block ≠ _; rw [add_block]; exact hn121_2) | exact hn121_2) (.int .i64 ((rd_T35 t101 x14_3).f2))).trans hx121_0; replace hx121_1 := (cell_far (p := ⟨gb119, 2, none⟩) (by first | (rw [add_block]; exact hn121_2) | (show (Addr.add _ _).block ≠ _; rw [add_block]; exact hn121_2) | exact hn121_2) (.int .i64 ((rd_T35 t101 x14_3).f2))).trans hx121_1; replace hx121_2 := (cell_far (p := ⟨gb119, 2, none⟩) (by first | (rw [add_block]; exact hn121_2) | (show (Addr.add _ _).block ≠ _; rw [add_block]; exact hn121_2) | exact hn121_2) (.int .i64 ((rd_T35 t101 x14_3).f2))).trans hx121_2; (try have hy121_0 := fun (n_ : Nat) => (show (((((w29.drewN n_).setCell ⟨gb119, 0, none⟩ (.int .i64 ((rd_T35 t101 x14_3).f0))).setCell ⟨gb119, 1, none⟩ (.string ((rd_T35 t101 x14_3).f1))).setCell ⟨gb119, 2, none⟩ (.int .i64 ((rd_T35 t101 x14_3).f2)))).cell? _ = some _ from hx121_0)); (try have hy121_1 := fun (n_ : Nat) => (show (((((w29.drewN n_).setCell ⟨gb119, 0, none⟩ (.int .i64 ((rd_T35 t101 x14_3).f0))).setCell ⟨gb119, 1, none⟩ (.string ((rd_T35 t101 x14_3).f1))).setCell ⟨gb119, 2, none⟩ (.int .i64 ((rd_T35 t101 x14_3).f2)))).cell? _ = some _ from hx121_1)); (try have hy121_2 := fun (n_ : Nat) => (show (((((w29.drewN n_).setCell ⟨gb119, 0, none⟩ (.int .i64 ((rd_T35 t101 x14_3).f0))).setCell ⟨gb119, 1, none⟩ (.string ((rd_T35 t101 x14_3).f1))).setCell ⟨gb119, 2, none⟩ (.int .i64 ((rd_T35 t101 x14_3).f2)))).cell? _ = some _ from hx121_2)); clear hn121_0; clear hn121_1; clear hn121_2; replace p121 := eq_true p121; replace q121 := eq_true q121))
                                repeat (go_quiet (first | ((with_reducible refine gate_dst (N := 15) rfl ?_); (try (refine gate_guard (by rfl) ?_; dsimp only)); refine box_event ?hg (N := 15) ?hd (cs := #[.int .i64 0, .string (⟨#[]⟩ : ByteArray), .int .i64 0]) (t := 35) ?hr ?_; (case hd => rfl); (case hg => rfl); (case hr => first | (go_simp; done) | (go_simp; rfl)); intro gb119 hg w29 hbox hb; have n0_ := Aside0.mk (Kd.R_below (Kd.R_elderB (by (with_reducible repeat (first | apply Kd.R_alloc | apply Kd.R_drewN | apply Kd.R_drew)); exact HO_5.out) gb119 (Nat.le_of_eq hg.symm)) hb); have n1_ := Aside0.mk (Kd.R_below (Kd.R_elderB (by (with_reducible repeat (first | apply Kd.R_alloc | apply Kd.R_drewN | apply Kd.R_drew)); exact HO_8.out) gb119 (Nat.le_of_eq hg.symm)) hb); have n2_ := Aside0.mk (Kd.R_below (Kd.R_elderB (by (with_reducible repeat (first | apply Kd.R_alloc | apply Kd.R_drewN | apply Kd.R_drew)); exact HO_11.out) gb119 (Nat.le_of_eq hg.symm)) hb); have n3_ := Aside0.mk (below_step (by repeat (first | (with_reducible first | exact HB.out | apply below_alloc | apply pw_below_drewN | apply below_drew1) | exact HB.out)) hb); have n4_ := Aside0.mk (hbox); have n5_ := Aside0.mk ((by rw [hg]; exact (below_size (by repeat (first | (with_reducible first | exact HB.out | apply below_alloc | apply pw_below_drewN | apply below_drew1) | exact HB.out))) : w.heap.size ≤ gb119)); have n6_ := Aside0.mk ((by rw [hg]; exact (below_size (by repeat (first | (with_reducible first | exact HB.out | apply below_alloc | apply pw_below_drewN | apply below_drew1) | exact HB.out))) : w.heap.size ≤ gb119)); clear HO_5; clear HO_8; clear HO_11; clear HB; have HO_5 := n0_; have HO_8 := n1_; have HO_11 := n2_; have HB := n3_; have BK119 := n4_; have GW119 := n5_; have GE119 := n6_; clear n0_ n1_ n2_ n3_ n4_ n5_ n6_; clear hb hbox hg; obtain ⟨Ao30, co30, eo30⟩ := Kd.R_slice HO_5.out; subst eo30; have p120 : 0 ≤ (x14_3 : Int) := of_decide_eq_true (by first | (with_reducible assumption) | assumption); have q120 : x14_3 < (t101.length : Int) := of_decide_eq_true (by first | (with_reducible assumption) | assumption); obtain ⟨ad120, e120, hx120_0, hx120_1, hx120_2⟩ := at_T35 (Kd.R_reads' HO_5.out).2.2 x14_3 p120 q120; cases e120; replace p120 := eq_true p120; replace q120 := eq_true q120; have hcz31_0 : w29.cell? ⟨gb119, 0, none⟩ = some (.int .i64 0) := (blk_cell BK119.out 0).trans rfl; have hcz31_1 : w29.cell? ⟨gb119, 1, none⟩ = some (.string (⟨#[]⟩ : ByteArray)) := (blk_cell BK119.out 1).trans rfl; have hcz31_2 : w29.cell? ⟨gb119, 2, none⟩ = some (.int .i64 0) := (blk_cell BK119.out 2).trans rfl; have hfz31_0 := blk_frozen BK119.out 0; have hfz31_1 := blk_frozen BK119.out 1; have hfz31_2 := blk_frozen BK119.out 2; have p121 : 0 ≤ (x14_3 : Int) := of_decide_eq_true (by first | (with_reducible assumption) | assumption); have q121 : x14_3 < (t111.length : Int) := of_decide_eq_true (by first | (with_reducible assumption) | assumption); obtain ⟨ad121, e121, hx121_0, hx121_1, hx121_2⟩ := at_T35 (Kd.R_reads' HO_11.out).2.2 x14_3 p121 q121; cases e121; have hn121_0 : ad121.block ≠ gb119 := Kd.own_blk (by first | exact Kd.R_ne HO_11.out BK119.out (by decide) | exact Kd.R_away HO_11.out (fun _ hk => hk.2) | exact Kd.R_away HO_11.out (fun _ hk => hk.1.2)); have hn121_1 : ad121.block ≠ gb119 := Kd.own_blk (by first | exact Kd.R_ne HO_11.out BK119.out (by decide) | exact Kd.R_away HO_11.out (fun _ hk => hk.2) | exact Kd.R_away HO_11.out (fun _ hk => hk.1.2)); have hn121_2 : ad121.block ≠ gb119 := Kd.own_blk (by first | exact Kd.R_ne HO_11.out BK119.out (by decide) | exact Kd.R_away HO_11.out (fun _ hk => hk.2) | exact Kd.R_away HO_11.out (fun _ hk => hk.1.2)); replace hx121_0 := (cell_far (p := ⟨gb119, 0, none⟩) (by first | (rw [add_block]; exact hn121_0) | (show (Addr.add _ _).block ≠ _; rw [add_block]; exact hn121_0) | exact hn121_0) (.int .i64 ((rd_T35 t101 x14_3).f0))).trans hx121_0; replace hx121_1 := (cell_far (p := ⟨gb119, 0, none⟩) (by first | (rw [add_block]; exact hn121_0) | (show (Addr.add _ _).block ≠ _; rw [add_block]; exact hn121_0) | exact hn121_0) (.int .i64 ((rd_T35 t101 x14_3).f0))).trans hx121_1; replace hx121_2 := (cell_far (p := ⟨gb119, 0, none⟩) (by first | (rw [add_block]; exact hn121_0) | (show (Addr.add _ _).block ≠ _; rw [add_block]; exact hn121_0) | exact hn121_0) (.int .i64 ((rd_T35 t101 x14_3).f0))).trans hx121_2; replace hx121_0 := (cell_far (p := ⟨gb119, 1, none⟩) (by first | (rw [add_block]; exact hn121_1) | (show (Addr.add _ _).block ≠ _; rw [add_block]; exact hn121_1) | exact hn121_1) (.string ((rd_T35 t101 x14_3).f1))).trans hx121_0; replace hx121_1 := (cell_far (p := ⟨gb119, 1, none⟩) (by first | (rw [add_block]; exact hn121_1) | (show (Addr.add _ _).block ≠ _; rw [add_block]; exact hn121_1) | exact hn121_1) (.string ((rd_T35 t101 x14_3).f1))).trans hx121_1; replace hx121_2 := (cell_far (p := ⟨gb119, 1, none⟩) (by first | (rw [add_block]; exact hn121_1) | (show (Addr.add _ _).block ≠ _; rw [add_block]; exact hn121_1) | exact hn121_1) (.string ((rd_T35 t101 x14_3).f1))).trans hx121_2; replace hx121_0 := (cell_far (p := ⟨gb119, 2, none⟩) (by first | (rw [add_block]; exact hn121_2) | (show (Addr.add _ _).block ≠ _; rw [add_block]; exact hn121_2) | exact hn121_2) (.int .i64 ((rd_T35 t101 x14_3).f2))).trans hx121_0; replace hx121_1 := (cell_far (p := ⟨gb119, 2, none⟩) (by first | (rw [add_block]; exact hn121_2) | (show (Addr.add _ _).block ≠ _; rw [add_block]; exact hn121_2) | exact hn121_2) (.int .i64 ((rd_T35 t101 x14_3).f2))).trans hx121_1; replace hx121_2 := (cell_far (p := ⟨gb119, 2, none⟩) (by first | (rw [add_block]; exact hn121_2) | (show (Addr.add _ _).block ≠ _; rw [add_block]; exact hn121_2) | exact hn121_2) (.int .i64 ((rd_T35 t101 x14_3).f2))).trans hx121_2; (try have hy121_0 := fun (n_ : Nat) => (show (((((w29.drewN n_).setCell ⟨gb119, 0, none⟩ (.int .i64 ((rd_T35 t101 x14_3).f0))).setCell ⟨gb119, 1, none⟩ (.string ((rd_T35 t101 x14_3).f1))).setCell ⟨gb119, 2, none⟩ (.int .i64 ((rd_T35 t101 x14_3).f2)))).cell? _ = some _ from hx121_0)); (try have hy121_1 := fun (n_ : Nat) => (show (((((w29.drewN n_).setCell ⟨gb119, 0, none⟩ (.int .i64 ((rd_T35 t101 x14_3).f0))).setCell ⟨gb119, 1, none⟩ (.string ((rd_T35 t101 x14_3).f1))).setCell ⟨gb119, 2, none⟩ (.int .i64 ((rd_T35 t101 x14_3).f2)))).cell? _ = some _ from hx121_1)); (try have hy121_2 := fun (n_ : Nat) => (show (((((w29.drewN n_).setCell ⟨gb119, 0, none⟩ (.int .i64 ((rd_T35 t101 x14_3).f0))).setCell ⟨gb119, 1, none⟩ (.string ((rd_T35 t101 x14_3).f1))).setCell ⟨gb119, 2, none⟩ (.int .i64 ((rd_T35 t101 x14_3).f2)))).cell? _ = some _ from hx121_2)); clear hn121_0; clear hn121_1; clear hn121_2; replace p121 := eq_true p121; replace q121 := eq_true q121)); try go_wp2_with (first | ((with_reducible refine gate_dst (N := 15) rfl ?_); (try (refine gate_guard (by rfl) ?_; dsimp only)); refine box_event ?hg (N := 15) ?hd (cs := #[.int .i64 0, .string (⟨#[]⟩ : ByteArray), .int .i64 0]) (t := 35) ?hr ?_; (case hd => rfl); (case hg => rfl); (case hr => first | (go_simp; done) | (go_simp; rfl)); intro gb119 hg w29 hbox hb; have n0_ := Aside0.mk (Kd.R_below (Kd.R_elderB (by (with_reducible repeat (first | apply Kd.R_alloc | apply Kd.R_drewN | apply Kd.R_drew)); exact HO_5.out) gb119 (Nat.le_of_eq hg.symm)) hb); have n1_ := Aside0.mk (Kd.R_below (Kd.R_elderB (by (with_reducible repeat (first | apply Kd.R_alloc | apply Kd.R_drewN | apply Kd.R_drew)); exact HO_8.out) gb119 (Nat.le_of_eq hg.symm)) hb); have n2_ := Aside0.mk (Kd.R_below (Kd.R_elderB (by (with_reducible repeat (first | apply Kd.R_alloc | apply Kd.R_drewN | apply Kd.R_drew)); exact HO_11.out) gb119 (Nat.le_of_eq hg.symm)) hb); have n3_ := Aside0.mk (below_step (by repeat (first | (with_reducible first | exact HB.out | apply below_alloc | apply pw_below_drewN | apply below_drew1) | exact HB.out)) hb); have n4_ := Aside0.mk (hbox); have n5_ := Aside0.mk ((by rw [hg]; exact (below_size (by repeat (first | (with_reducible first | exact HB.out | apply below_alloc | apply pw_below_drewN | apply below_drew1) | exact HB.out))) : w.heap.size ≤ gb119)); have n6_ := Aside0.mk ((by rw [hg]; exact (below_size (by repeat (first | (with_reducible first | exact HB.out | apply below_alloc | apply pw_below_drewN | apply below_drew1) | exact HB.out))) : w.heap.size ≤ gb119)); clear HO_5; clear HO_8; clear HO_11; clear HB; have HO_5 := n0_; have HO_8 := n1_; have HO_11 := n2_; have HB := n3_; have BK119 := n4_; have GW119 := n5_; have GE119 := n6_; clear n0_ n1_ n2_ n3_ n4_ n5_ n6_; clear hb hbox hg; obtain ⟨Ao30, co30, eo30⟩ := Kd.R_slice HO_5.out; subst eo30; have p120 : 0 ≤ (x14_3 : Int) := of_decide_eq_true (by first | (with_reducible assumption) | assumption); have q120 : x14_3 < (t101.length : Int) := of_decide_eq_true (by first | (with_reducible assumption) | assumption); obtain ⟨ad120, e120, hx120_0, hx120_1, hx120_2⟩ := at_T35 (Kd.R_reads' HO_5.out).2.2 x14_3 p120 q120; cases e120; replace p120 := eq_true p120; replace q120 := eq_true q120; have hcz31_0 : w29.cell? ⟨gb119, 0, none⟩ = some (.int .i64 0) := (blk_cell BK119.out 0).trans rfl; have hcz31_1 : w29.cell? ⟨gb119, 1, none⟩ = some (.string (⟨#[]⟩ : ByteArray)) := (blk_cell BK119.out 1).trans rfl; have hcz31_2 : w29.cell? ⟨gb119, 2, none⟩ = some (.int .i64 0) := (blk_cell BK119.out 2).trans rfl; have hfz31_0 := blk_frozen BK119.out 0; have hfz31_1 := blk_frozen BK119.out 1; have hfz31_2 := blk_frozen BK119.out 2; have p121 : 0 ≤ (x14_3 : Int) := of_decide_eq_true (by first | (with_reducible assumption) | assumption); have q121 : x14_3 < (t111.length : Int) := of_decide_eq_true (by first | (with_reducible assumption) | assumption); obtain ⟨ad121, e121, hx121_0, hx121_1, hx121_2⟩ := at_T35 (Kd.R_reads' HO_11.out).2.2 x14_3 p121 q121; cases e121; have hn121_0 : ad121.block ≠ gb119 := Kd.own_blk (by first | exact Kd.R_ne HO_11.out BK119.out (by decide) | exact Kd.R_away HO_11.out (fun _ hk => hk.2) | exact Kd.R_away HO_11.out (fun _ hk => hk.1.2)); have hn121_1 : ad121.block ≠ gb119 := Kd.own_blk (by first | exact Kd.R_ne HO_11.out BK119.out (by decide) | exact Kd.R_away HO_11.out (fun _ hk => hk.2) | exact Kd.R_away HO_11.out (fun _ hk => hk.1.2)); have hn121_2 : ad121.block ≠ gb119 := Kd.own_blk (by first | exact Kd.R_ne HO_11.out BK119.out (by decide) | exact Kd.R_away HO_11.out (fun _ hk => hk.2) | exact Kd.R_away HO_11.out (fun _ hk => hk.1.2)); replace hx121_0 := (cell_far (p := ⟨gb119, 0, none⟩) (by first | (rw [add_block]; exact hn121_0) | (show (Addr.add _ _).block ≠ _; rw [add_block]; exact hn121_0) | exact hn121_0) (.int .i64 ((rd_T35 t101 x14_3).f0))).trans hx121_0; replace hx121_1 := (cell_far (p := ⟨gb119, 0, none⟩) (by first | (rw [add_block]; exact hn121_0) | (show (Addr.add _ _).block ≠ _; rw [add_block]; exact hn121_0) | exact hn121_0) (.int .i64 ((rd_T35 t101 x14_3).f0))).trans hx121_1; replace hx121_2 := (cell_far (p := ⟨gb119, 0, none⟩) (by first | (rw [add_block]; exact hn121_0) | (show (Addr.add _ _).block ≠ _; rw [add_block]; exact hn121_0) | exact hn121_0) (.int .i64 ((rd_T35 t101 x14_3).f0))).trans hx121_2; replace hx121_0 := (cell_far (p := ⟨gb119, 1, none⟩) (by first | (rw [add_block]; exact hn121_1) | (show (Addr.add _ _).block ≠ _; rw [add_block]; exact hn121_1) | exact hn121_1) (.string ((rd_T35 t101 x14_3).f1))).trans hx121_0; replace hx121_1 := (cell_far (p := ⟨gb119, 1, none⟩) (by first | (rw [add_block]; exact hn121_1) | (show (Addr.add _ _).block ≠ _; rw [add_block]; exact hn121_1) | exact hn121_1) (.string ((rd_T35 t101 x14_3).f1))).trans hx121_1; replace hx121_2 := (cell_far (p := ⟨gb119, 1, none⟩) (by first | (rw [add_block]; exact hn121_1) | (show (Addr.add _ _).block ≠ _; rw [add_block]; exact hn121_1) | exact hn121_1) (.string ((rd_T35 t101 x14_3).f1))).trans hx121_2; replace hx121_0 := (cell_far (p := ⟨gb119, 2, none⟩) (by first | (rw [add_block]; exact hn121_2) | (show (Addr.add _ _).block ≠ _; rw [add_block]; exact hn121_2) | exact hn121_2) (.int .i64 ((rd_T35 t101 x14_3).f2))).trans hx121_0; replace hx121_1 := (cell_far (p := ⟨gb119, 2, none⟩) (by first | (rw [add_block]; exact hn121_2) | (show (Addr.add _ _).block ≠ _; rw [add_block]; exact hn121_2) | exact hn121_2) (.int .i64 ((rd_T35 t101 x14_3).f2))).trans hx121_1; replace hx121_2 := (cell_far (p := ⟨gb119, 2, none⟩) (by first | (rw [add_block]; exact hn121_2) | (show (Addr.add _ _).block ≠ _; rw [add_block]; exact hn121_2) | exact hn121_2) (.int .i64 ((rd_T35 t101 x14_3).f2))).trans hx121_2; (try have hy121_0 := fun (n_ : Nat) => (show (((((w29.drewN n_).setCell ⟨gb119, 0, none⟩ (.int .i64 ((rd_T35 t101 x14_3).f0))).setCell ⟨gb119, 1, none⟩ (.string ((rd_T35 t101 x14_3).f1))).setCell ⟨gb119, 2, none⟩ (.int .i64 ((rd_T35 t101 x14_3).f2)))).cell? _ = some _ from hx121_0)); (try have hy121_1 := fun (n_ : Nat) => (show (((((w29.drewN n_).setCell ⟨gb119, 0, none⟩ (.int .i64 ((rd_T35 t101 x14_3).f0))).setCell ⟨gb119, 1, none⟩ (.string ((rd_T35 t101 x14_3).f1))).setCell ⟨gb119, 2, none⟩ (.int .i64 ((rd_T35 t101 x14_3).f2)))).cell? _ = some _ from hx121_1)); (try have hy121_2 := fun (n_ : Nat) => (show (((((w29.drewN n_).setCell ⟨gb119, 0, none⟩ (.int .i64 ((rd_T35 t101 x14_3).f0))).setCell ⟨gb119, 1, none⟩ (.string ((rd_T35 t101 x14_3).f1))).setCell ⟨gb119, 2, none⟩ (.int .i64 ((rd_T35 t101 x14_3).f2)))).cell? _ = some _ from hx121_2)); clear hn121_0; clear hn121_1; clear hn121_2; replace p121 := eq_true p121; replace q121 := eq_true q121)))
                                go_roundg k3
                                case measure => have := HJ7.out; have := HJ17.out; have := HK3.out; omega
                                case rel => exact ⟨(wrap64 (x14_3 + 1)), (by first | rfl | (simp; done) | (simp [*]; done) | (simp [Go.Proofs.YtngeelpfbajppaaDoor.Bs.isEmpty_bne, Go.Proofs.YtngeelpfbajppaaDoor.Bs.isEmpty_beq]; done)), H', ⟨by have := HJ7.out; have := HJ17.out; have := HK3.out; omega⟩, ⟨by (with_reducible repeat (first | apply Kd.R_alloc | apply Kd.R_drewN | apply Kd.R_drew)); exact Kd.R_mono (Kd.R_far (p := ⟨gb119, 2, none⟩) (Kd.R_far (p := ⟨gb119, 1, none⟩) (Kd.R_far (p := ⟨gb119, 0, none⟩) (Kd.R_mono HO_5.out (fun k_ hk => (⟨hk, hk.2⟩ : _ ∧ k_ ≠ gb119))) (fun _ hk => hk.2) (.int .i64 ((rd_T35 t101 x14_3).f0))) (fun _ hk => hk.2) (.string ((rd_T35 t101 x14_3).f1))) (fun _ hk => hk.2) (.int .i64 ((rd_T35 t101 x14_3).f2))) (fun _ hk => ⟨hk.1.1.1, hk.1.1.2⟩)⟩, ⟨by (with_reducible repeat (first | apply Kd.R_alloc | apply Kd.R_drewN | apply Kd.R_drew)); exact Kd.R_mono (Kd.R_far (p := ⟨gb119, 2, none⟩) (Kd.R_far (p := ⟨gb119, 1, none⟩) (Kd.R_far (p := ⟨gb119, 0, none⟩) (Kd.R_mono HO_8.out (fun k_ hk => (⟨hk, hk.2⟩ : _ ∧ k_ ≠ gb119))) (fun _ hk => hk.2) (.int .i64 ((rd_T35 t101 x14_3).f0))) (fun _ hk => hk.2) (.string ((rd_T35 t101 x14_3).f1))) (fun _ hk => hk.2) (.int .i64 ((rd_T35 t101 x14_3).f2))) (fun _ hk => ⟨hk.1.1.1, hk.1.1.2⟩)⟩, ⟨by (with_reducible repeat (first | apply Kd.R_alloc | apply Kd.R_drewN | apply Kd.R_drew)); exact Kd.R_mono (Kd.R_far (p := ⟨gb119, 2, none⟩) (Kd.R_far (p := ⟨gb119, 1, none⟩) (Kd.R_far (p := ⟨gb119, 0, none⟩) (Kd.R_mono HO_11.out (fun k_ hk => (⟨hk, hk.2⟩ : _ ∧ k_ ≠ gb119))) (fun _ hk => hk.2) (.int .i64 ((rd_T35 t101 x14_3).f0))) (fun _ hk => hk.2) (.string ((rd_T35 t101 x14_3).f1))) (fun _ hk => hk.2) (.int .i64 ((rd_T35 t101 x14_3).f2))) (fun _ hk => ⟨hk.1.1.1, hk.1.1.2⟩)⟩, ⟨by repeat (first | (with_reducible first | exact HB.out | apply below_alloc | apply pw_below_drewN | apply below_drew1 | refine below_set ?_ GE119.out) | exact HB.out)⟩⟩
                            · rw [if_neg c26] at H
                              exact absurd H (by simp)
                          · rw [if_neg c25] at H
                            have c25b0 : decide (x14_3 < (t101.length : Int)) = false := decide_eq_false c25
                            clear c25
                            obtain ⟨ji32, hji32⟩ : ∃ j_ : Int, (wrap64 (x14_3 - (t101.length : Int))) = j_ := ⟨_, rfl⟩
                            replace H : (if 0 ≤ (ji32) then (if (ji32) < (t106.length : Int) then (if 0 ≤ x14_3 then (if (!(((rd_T35 t111 x14_3).f0) == ((rd_T35 t106 (ji32)).f0)) || (!((((rd_T35 t111 x14_3).f1).toList) == (((rd_T35 t106 (ji32)).f1).toList)) || (!(((rd_T35 t111 x14_3).f2) == (wrap64 ((wrap64 (((rd_T35 t106 (ji32)).f2) + (a0.size : Int))) + 1)))))) = true then (some false) else (instarlaw08_LexJoins.l0 k3 a0 t101 t106 t111 (wrap64 (x14_3 + 1)))) else (none)) else (none)) else (none)) = some r := by first | (rw [hji32] at H; exact H) | (simp only [hji32] at H ⊢; exact H)
                            have hji32w : (IntKind.i64.wrap (x14_3 - (t101.length : Int))) = ji32 := (i64_w _).trans hji32
                            by_cases c33 : 0 ≤ (ji32)
                            · rw [if_pos c33] at H
                              have c33b0 : decide (0 ≤ (ji32)) = true := decide_eq_true c33
                              clear c33
                              by_cases c34 : (ji32) < (t106.length : Int)
                              · rw [if_pos c34] at H
                                have c34b0 : decide ((ji32) < (t106.length : Int)) = true := decide_eq_true c34
                                clear c34
                                by_cases c35 : 0 ≤ x14_3
                                · rw [if_pos c35] at H
                                  have c35b0 : decide (0 ≤ x14_3) = true := decide_eq_true c35
                                  clear c35
                                  by_cases c36 : (!(((rd_T35 t111 x14_3).f0) == ((rd_T35 t106 (ji32)).f0)) || (!((((rd_T35 t111 x14_3).f1).toList) == (((rd_T35 t106 (ji32)).f1).toList)) || (!(((rd_T35 t111 x14_3).f2) == (wrap64 ((wrap64 (((rd_T35 t106 (ji32)).f2) + (a0.size : Int))) + 1)))))) = true
                                  · rw [if_pos c36] at H
                                    have c36b0 : (!(((rd_T35 t111 x14_3).f0) == ((rd_T35 t106 (ji32)).f0)) || (!((((rd_T35 t111 x14_3).f1).toList) == (((rd_T35 t106 (ji32)).f1).toList)) || (!(((rd_T35 t111 x14_3).f2) == (wrap64 ((wrap64 (((rd_T35 t106 (ji32)).f2) + (a0.size : Int))) + 1)))))) = true := c36
                                    clear c36
                                    exact absurd ((Option.some.inj H).trans hr_.out) (by decide)
                                  · rw [if_neg c36] at H
                                    have c36b0 : (!(((rd_T35 t111 x14_3).f0) == ((rd_T35 t106 (ji32)).f0)) || (!((((rd_T35 t111 x14_3).f1).toList) == (((rd_T35 t106 (ji32)).f1).toList)) || (!(((rd_T35 t111 x14_3).f2) == (wrap64 ((wrap64 (((rd_T35 t106 (ji32)).f2) + (a0.size : Int))) + 1)))))) = false := by simpa using c36
                                    clear c36
                                    have H' := Aside0.mk H
                                    clear H
                                    obtain ⟨Ao37, co37, eo37⟩ := Kd.R_slice HO_11.out
                                    subst eo37
                                    go_wp2_with (first | ((with_reducible refine gate_dst (N := 15) rfl ?_); (try (refine gate_guard (by rfl) ?_; dsimp only)); refine box_event ?hg (N := 15) ?hd (cs := #[.int .i64 0, .string (⟨#[]⟩ : ByteArray), .int .i64 0]) (t := 35) ?hr ?_; (case hd => rfl); (case hg => rfl); (case hr => first | (go_simp; done) | (go_simp; rfl)); intro gb119 hg w38 hbox hb; have n0_ := Aside0.mk (Kd.R_below (Kd.R_elderB (by (with_reducible repeat (first | apply Kd.R_alloc | apply Kd.R_drewN | apply Kd.R_drew)); exact HO_5.out) gb119 (Nat.le_of_eq hg.symm)) hb); have n1_ := Aside0.mk (Kd.R_below (Kd.R_elderB (by (with_reducible repeat (first | apply Kd.R_alloc | apply Kd.R_drewN | apply Kd.R_drew)); exact HO_8.out) gb119 (Nat.le_of_eq hg.symm)) hb); have n2_ := Aside0.mk (Kd.R_below (Kd.R_elderB (by (with_reducible repeat (first | apply Kd.R_alloc | apply Kd.R_drewN | apply Kd.R_drew)); exact HO_11.out) gb119 (Nat.le_of_eq hg.symm)) hb); have n3_ := Aside0.mk (below_step (by repeat (first | (with_reducible first | exact HB.out | apply below_alloc | apply pw_below_drewN | apply below_drew1) | exact HB.out)) hb); have n4_ := Aside0.mk (hbox); have n5_ := Aside0.mk ((by rw [hg]; exact (below_size (by repeat (first | (with_reducible first | exact HB.out | apply below_alloc | apply pw_below_drewN | apply below_drew1) | exact HB.out))) : w.heap.size ≤ gb119)); have n6_ := Aside0.mk ((by rw [hg]; exact (below_size (by repeat (first | (with_reducible first | exact HB.out | apply below_alloc | apply pw_below_drewN | apply below_drew1) | exact HB.out))) : w.heap.size ≤ gb119)); clear HO_5; clear HO_8; clear HO_11; clear HB; have HO_5 := n0_; have HO_8 := n1_; have HO_11 := n2_; have HB := n3_; have BK119 := n4_; have GW119 := n5_; have GE119 := n6_; clear n0_ n1_ n2_ n3_ n4_ n5_ n6_; clear hb hbox hg; obtain ⟨Ao39, co39, eo39⟩ := Kd.R_slice HO_5.out; subst eo39; obtain ⟨Ao40, co40, eo40⟩ := Kd.R_slice HO_8.out; subst eo40; have p122 : 0 ≤ ((ji32) : Int) := of_decide_eq_true (by first | (with_reducible assumption) | assumption); have q122 : (ji32) < (t106.length : Int) := of_decide_eq_true (by first | (with_reducible assumption) | assumption); obtain ⟨ad122, e122, hx122_0, hx122_1, hx122_2⟩ := at_T35 (Kd.R_reads' HO_8.out).2.2 (ji32) p122 q122; cases e122; replace p122 := eq_true p122; replace q122 := eq_true q122; have hcz41_0 : w38.cell? ⟨gb119, 0, none⟩ = some (.int .i64 0) := (blk_cell BK119.out 0).trans rfl; have hcz41_1 : w38.cell? ⟨gb119, 1, none⟩ = some (.string (⟨#[]⟩ : ByteArray)) := (blk_cell BK119.out 1).trans rfl; have hcz41_2 : w38.cell? ⟨gb119, 2, none⟩ = some (.int .i64 0) := (blk_cell BK119.out 2).trans rfl; have hfz41_0 := blk_frozen BK119.out 0; have hfz41_1 := blk_frozen BK119.out 1; have hfz41_2 := blk_frozen BK119.out 2; have p123 : 0 ≤ (x14_3 : Int) := of_decide_eq_true (by first | (with_reducible assumption) | assumption); have q123 : x14_3 < (t111.length : Int) := of_decide_eq_true (by first | (with_reducible assumption) | assumption); obtain ⟨ad123, e123, hx123_0, hx123_1, hx123_2⟩ := at_T35 (Kd.R_reads' HO_11.out).2.2 x14_3 p123 q123; cases e123; have hn123_0 : ad123.block ≠ gb119 := Kd.own_blk (by first | exact Kd.R_ne HO_11.out BK119.out (by decide) | exact Kd.R_away HO_11.out (fun _ hk => hk.2) | exact Kd.R_away HO_11.out (fun _ hk => hk.1.2)); have hn123_1 : ad123.block ≠ gb119 := Kd.own_blk (by first | exact Kd.R_ne HO_11.out BK119.out (by decide) | exact Kd.R_away HO_11.out (fun _ hk => hk.2) | exact Kd.R_away HO_11.out (fun _ hk => hk.1.2)); have hn123_2 : ad123.block ≠ gb119 := Kd.own_blk (by first | exact Kd.R_ne HO_11.out BK119.out (by decide) | exact Kd.R_away HO_11.out (fun _ hk => hk.2) | exact Kd.R_away HO_11.out (fun _ hk => hk.1.2)); have hn123_3 : ad123.block ≠ gb119 := Kd.own_blk (by first | exact Kd.R_ne HO_11.out BK119.out (by decide) | exact Kd.R_away HO_11.out (fun _ hk => hk.2) | exact Kd.R_away HO_11.out (fun _ hk => hk.1.2)); replace hx123_0 := (cell_far (p := ⟨gb119, 0, none⟩) (by first | (rw [add_block]; exact hn123_0) | (show (Addr.add _ _).block ≠ _; rw [add_block]; exact hn123_0) | exact hn123_0) (.int .i64 ((rd_T35 t106 (ji32)).f0))).trans hx123_0; replace hx123_1 := (cell_far (p := ⟨gb119, 0, none⟩) (by first | (rw [add_block]; exact hn123_0) | (show (Addr.add _ _).block ≠ _; rw [add_block]; exact hn123_0) | exact hn123_0) (.int .i64 ((rd_T35 t106 (ji32)).f0))).trans hx123_1; replace hx123_2 := (cell_far (p := ⟨gb119, 0, none⟩) (by first | (rw [add_block]; exact hn123_0) | (show (Addr.add _ _).block ≠ _; rw [add_block]; exact hn123_0) | exact hn123_0) (.int .i64 ((rd_T35 t106 (ji32)).f0))).trans hx123_2; replace hx123_0 := (cell_far (p := ⟨gb119, 1, none⟩) (by first | (rw [add_block]; exact hn123_1) | (show (Addr.add _ _).block ≠ _; rw [add_block]; exact hn123_1) | exact hn123_1) (.string ((rd_T35 t106 (ji32)).f1))).trans hx123_0; replace hx123_1 := (cell_far (p := ⟨gb119, 1, none⟩) (by first | (rw [add_block]; exact hn123_1) | (show (Addr.add _ _).block ≠ _; rw [add_block]; exact hn123_1) | exact hn123_1) (.string ((rd_T35 t106 (ji32)).f1))).trans hx123_1; replace hx123_2 := (cell_far (p := ⟨gb119, 1, none⟩) (by first | (rw [add_block]; exact hn123_1) | (show (Addr.add _ _).block ≠ _; rw [add_block]; exact hn123_1) | exact hn123_1) (.string ((rd_T35 t106 (ji32)).f1))).trans hx123_2; replace hx123_0 := (cell_far (p := ⟨gb119, 2, none⟩) (by first | (rw [add_block]; exact hn123_2) | (show (Addr.add _ _).block ≠ _; rw [add_block]; exact hn123_2) | exact hn123_2) (.int .i64 ((rd_T35 t106 (ji32)).f2))).trans hx123_0; replace hx123_1 := (cell_far (p := ⟨gb119, 2, none⟩) (by first | (rw [add_block]; exact hn123_2) | (show (Addr.add _ _).block ≠ _; rw [add_block]; exact hn123_2) | exact hn123_2) (.int .i64 ((rd_T35 t106 (ji32)).f2))).trans hx123_1; replace hx123_2 := (cell_far (p := ⟨gb119, 2, none⟩) (by first | (rw [add_block]; exact hn123_2) | (show (Addr.add _ _).block ≠ _; rw [add_block]; exact hn123_2) | exact hn123_2) (.int .i64 ((rd_T35 t106 (ji32)).f2))).trans hx123_2; replace hx123_0 := (cell_far (p := ⟨gb119, 2, none⟩) (by first | (rw [add_block]; exact hn123_3) | (show (Addr.add _ _).block ≠ _; rw [add_block]; exact hn123_3) | exact hn123_3) (.int .i64 (wrap64 ((wrap64 (((rd_T35 t106 (ji32)).f2) + (a0.size : Int))) + 1)))).trans hx123_0; replace hx123_1 := (cell_far (p := ⟨gb119, 2, none⟩) (by first | (rw [add_block]; exact hn123_3) | (show (Addr.add _ _).block ≠ _; rw [add_block]; exact hn123_3) | exact hn123_3) (.int .i64 (wrap64 ((wrap64 (((rd_T35 t106 (ji32)).f2) + (a0.size : Int))) + 1)))).trans hx123_1; replace hx123_2 := (cell_far (p := ⟨gb119, 2, none⟩) (by first | (rw [add_block]; exact hn123_3) | (show (Addr.add _ _).block ≠ _; rw [add_block]; exact hn123_3) | exact hn123_3) (.int .i64 (wrap64 ((wrap64 (((rd_T35 t106 (ji32)).f2) + (a0.size : Int))) + 1)))).trans hx123_2; (try have hy123_0 := fun (n_ : Nat) => (show ((((((w38.drewN n_).setCell ⟨gb119, 0, none⟩ (.int .i64 ((rd_T35 t106 (ji32)).f0))).setCell ⟨gb119, 1, none⟩ (.string ((rd_T35 t106 (ji32)).f1))).setCell ⟨gb119, 2, none⟩ (.int .i64 ((rd_T35 t106 (ji32)).f2))).setCell ⟨gb119, 2, none⟩ (.int .i64 (wrap64 ((wrap64 (((rd_T35 t106 (ji32)).f2) + (a0.size : Int))) + 1))))).cell? _ = some _ from hx123_0)); (try have hy123_1 := fun (n_ : Nat) => (show ((((((w38.drewN n_).setCell ⟨gb119, 0, none⟩ (.int .i64 ((rd_T35 t106 (ji32)).f0))).setCell ⟨gb119, 1, none⟩ (.string ((rd_T35 t106 (ji32)).f1))).setCell ⟨gb119, 2, none⟩ (.int .i64 ((rd_T35 t106 (ji32)).f2))).setCell ⟨gb119, 2, none⟩ (.int .i64 (wrap64 ((wrap64 (((rd_T35 t106 (ji32)).f2) + (a0.size : Int))) + 1))))).cell? _ = some _ from hx123_1)); (try have hy123_2 := fun (n_ : Nat) => (show ((((((w38.drewN n_).setCell ⟨gb119, 0, none⟩ (.int .i64 ((rd_T35 t106 (ji32)).f0))).setCell ⟨gb119, 1, none⟩ (.string ((rd_T35 t106 (ji32)).f1))).setCell ⟨gb119, 2, none⟩ (.int .i64 ((rd_T35 t106 (ji32)).f2))).setCell ⟨gb119, 2, none⟩ (.int .i64 (wrap64 ((wrap64 (((rd_T35 t106 (ji32)).f2) + (a0.size : Int))) + 1))))).cell? _ = some _ from hx123_2)); clear hn123_0; clear hn123_1; clear hn123_2; clear hn123_3; replace p123 := eq_true p123; replace q123 := eq_true q123))
                                    repeat (go_quiet (first | ((with_reducible refine gate_dst (N := 15) rfl ?_); (try (refine gate_guard (by rfl) ?_; dsimp only)); refine box_event ?hg (N := 15) ?hd (cs := #[.int .i64 0, .string (⟨#[]⟩ : ByteArray), .int .i64 0]) (t := 35) ?hr ?_; (case hd => rfl); (case hg => rfl); (case hr => first | (go_simp; done) | (go_simp; rfl)); intro gb119 hg w38 hbox hb; have n0_ := Aside0.mk (Kd.R_below (Kd.R_elderB (by (with_reducible repeat (first | apply Kd.R_alloc | apply Kd.R_drewN | apply Kd.R_drew)); exact HO_5.out) gb119 (Nat.le_of_eq hg.symm)) hb); have n1_ := Aside0.mk (Kd.R_below (Kd.R_elderB (by (with_reducible repeat (first | apply Kd.R_alloc | apply Kd.R_drewN | apply Kd.R_drew)); exact HO_8.out) gb119 (Nat.le_of_eq hg.symm)) hb); have n2_ := Aside0.mk (Kd.R_below (Kd.R_elderB (by (with_reducible repeat (first | apply Kd.R_alloc | apply Kd.R_drewN | apply Kd.R_drew)); exact HO_11.out) gb119 (Nat.le_of_eq hg.symm)) hb); have n3_ := Aside0.mk (below_step (by repeat (first | (with_reducible first | exact HB.out | apply below_alloc | apply pw_below_drewN | apply below_drew1) | exact HB.out)) hb); have n4_ := Aside0.mk (hbox); have n5_ := Aside0.mk ((by rw [hg]; exact (below_size (by repeat (first | (with_reducible first | exact HB.out | apply below_alloc | apply pw_below_drewN | apply below_drew1) | exact HB.out))) : w.heap.size ≤ gb119)); have n6_ := Aside0.mk ((by rw [hg]; exact (below_size (by repeat (first | (with_reducible first | exact HB.out | apply below_alloc | apply pw_below_drewN | apply below_drew1) | exact HB.out))) : w.heap.size ≤ gb119)); clear HO_5; clear HO_8; clear HO_11; clear HB; have HO_5 := n0_; have HO_8 := n1_; have HO_11 := n2_; have HB := n3_; have BK119 := n4_; have GW119 := n5_; have GE119 := n6_; clear n0_ n1_ n2_ n3_ n4_ n5_ n6_; clear hb hbox hg; obtain ⟨Ao39, co39, eo39⟩ := Kd.R_slice HO_5.out; subst eo39; obtain ⟨Ao40, co40, eo40⟩ := Kd.R_slice HO_8.out; subst eo40; have p122 : 0 ≤ ((ji32) : Int) := of_decide_eq_true (by first | (with_reducible assumption) | assumption); have q122 : (ji32) < (t106.length : Int) := of_decide_eq_true (by first | (with_reducible assumption) | assumption); obtain ⟨ad122, e122, hx122_0, hx122_1, hx122_2⟩ := at_T35 (Kd.R_reads' HO_8.out).2.2 (ji32) p122 q122; cases e122; replace p122 := eq_true p122; replace q122 := eq_true q122; have hcz41_0 : w38.cell? ⟨gb119, 0, none⟩ = some (.int .i64 0) := (blk_cell BK119.out 0).trans rfl; have hcz41_1 : w38.cell? ⟨gb119, 1, none⟩ = some (.string (⟨#[]⟩ : ByteArray)) := (blk_cell BK119.out 1).trans rfl; have hcz41_2 : w38.cell? ⟨gb119, 2, none⟩ = some (.int .i64 0) := (blk_cell BK119.out 2).trans rfl; have hfz41_0 := blk_frozen BK119.out 0; have hfz41_1 := blk_frozen BK119.out 1; have hfz41_2 := blk_frozen BK119.out 2; have p123 : 0 ≤ (x14_3 : Int) := of_decide_eq_true (by first | (with_reducible assumption) | assumption); have q123 : x14_3 < (t111.length : Int) := of_decide_eq_true (by first | (with_reducible assumption) | assumption); obtain ⟨ad123, e123, hx123_0, hx123_1, hx123_2⟩ := at_T35 (Kd.R_reads' HO_11.out).2.2 x14_3 p123 q123; cases e123; have hn123_0 : ad123.block ≠ gb119 := Kd.own_blk (by first | exact Kd.R_ne HO_11.out BK119.out (by decide) | exact Kd.R_away HO_11.out (fun _ hk => hk.2) | exact Kd.R_away HO_11.out (fun _ hk => hk.1.2)); have hn123_1 : ad123.block ≠ gb119 := Kd.own_blk (by first | exact Kd.R_ne HO_11.out BK119.out (by decide) | exact Kd.R_away HO_11.out (fun _ hk => hk.2) | exact Kd.R_away HO_11.out (fun _ hk => hk.1.2)); have hn123_2 : ad123.block ≠ gb119 := Kd.own_blk (by first | exact Kd.R_ne HO_11.out BK119.out (by decide) | exact Kd.R_away HO_11.out (fun _ hk => hk.2) | exact Kd.R_away HO_11.out (fun _ hk => hk.1.2)); have hn123_3 : ad123.block ≠ gb119 := Kd.own_blk (by first | exact Kd.R_ne HO_11.out BK119.out (by decide) | exact Kd.R_away HO_11.out (fun _ hk => hk.2) | exact Kd.R_away HO_11.out (fun _ hk => hk.1.2)); replace hx123_0 := (cell_far (p := ⟨gb119, 0, none⟩) (by first | (rw [add_block]; exact hn123_0) | (show (Addr.add _ _).block ≠ _; rw [add_block]; exact hn123_0) | exact hn123_0) (.int .i64 ((rd_T35 t106 (ji32)).f0))).trans hx123_0; replace hx123_1 := (cell_far (p := ⟨gb119, 0, none⟩) (by first | (rw [add_block]; exact hn123_0) | (show (Addr.add _ _).block ≠ _; rw [add_block]; exact hn123_0) | exact hn123_0) (.int .i64 ((rd_T35 t106 (ji32)).f0))).trans hx123_1; replace hx123_2 := (cell_far (p := ⟨gb119, 0, none⟩) (by first | (rw [add_block]; exact hn123_0) | (show (Addr.add _ _).block ≠ _; rw [add_block]; exact hn123_0) | exact hn123_0) (.int .i64 ((rd_T35 t106 (ji32)).f0))).trans hx123_2; replace hx123_0 := (cell_far (p := ⟨gb119, 1, none⟩) (by first | (rw [add_block]; exact hn123_1) | (show (Addr.add _ _).block ≠ _; rw [add_block]; exact hn123_1) | exact hn123_1) (.string ((rd_T35 t106 (ji32)).f1))).trans hx123_0; replace hx123_1 := (cell_far (p := ⟨gb119, 1, none⟩) (by first | (rw [add_block]; exact hn123_1) | (show (Addr.add _ _).block ≠ _; rw [add_block]; exact hn123_1) | exact hn123_1) (.string ((rd_T35 t106 (ji32)).f1))).trans hx123_1; replace hx123_2 := (cell_far (p := ⟨gb119, 1, none⟩) (by first | (rw [add_block]; exact hn123_1) | (show (Addr.add _ _).block ≠ _; rw [add_block]; exact hn123_1) | exact hn123_1) (.string ((rd_T35 t106 (ji32)).f1))).trans hx123_2; replace hx123_0 := (cell_far (p := ⟨gb119, 2, none⟩) (by first | (rw [add_block]; exact hn123_2) | (show (Addr.add _ _).block ≠ _; rw [add_block]; exact hn123_2) | exact hn123_2) (.int .i64 ((rd_T35 t106 (ji32)).f2))).trans hx123_0; replace hx123_1 := (cell_far (p := ⟨gb119, 2, none⟩) (by first | (rw [add_block]; exact hn123_2) | (show (Addr.add _ _).block ≠ _; rw [add_block]; exact hn123_2) | exact hn123_2) (.int .i64 ((rd_T35 t106 (ji32)).f2))).trans hx123_1; replace hx123_2 := (cell_far (p := ⟨gb119, 2, none⟩) (by first | (rw [add_block]; exact hn123_2) | (show (Addr.add _ _).block ≠ _; rw [add_block]; exact hn123_2) | exact hn123_2) (.int .i64 ((rd_T35 t106 (ji32)).f2))).trans hx123_2; replace hx123_0 := (cell_far (p := ⟨gb119, 2, none⟩) (by first | (rw [add_block]; exact hn123_3) | (show (Addr.add _ _).block ≠ _; rw [add_block]; exact hn123_3) | exact hn123_3) (.int .i64 (wrap64 ((wrap64 (((rd_T35 t106 (ji32)).f2) + (a0.size : Int))) + 1)))).trans hx123_0; replace hx123_1 := (cell_far (p := ⟨gb119, 2, none⟩) (by first | (rw [add_block]; exact hn123_3) | (show (Addr.add _ _).block ≠ _; rw [add_block]; exact hn123_3) | exact hn123_3) (.int .i64 (wrap64 ((wrap64 (((rd_T35 t106 (ji32)).f2) + (a0.size : Int))) + 1)))).trans hx123_1; replace hx123_2 := (cell_far (p := ⟨gb119, 2, none⟩) (by first | (rw [add_block]; exact hn123_3) | (show (Addr.add _ _).block ≠ _; rw [add_block]; exact hn123_3) | exact hn123_3) (.int .i64 (wrap64 ((wrap64 (((rd_T35 t106 (ji32)).f2) + (a0.size : Int))) + 1)))).trans hx123_2; (try have hy123_0 := fun (n_ : Nat) => (show ((((((w38.drewN n_).setCell ⟨gb119, 0, none⟩ (.int .i64 ((rd_T35 t106 (ji32)).f0))).setCell ⟨gb119, 1, none⟩ (.string ((rd_T35 t106 (ji32)).f1))).setCell ⟨gb119, 2, none⟩ (.int .i64 ((rd_T35 t106 (ji32)).f2))).setCell ⟨gb119, 2, none⟩ (.int .i64 (wrap64 ((wrap64 (((rd_T35 t106 (ji32)).f2) + (a0.size : Int))) + 1))))).cell? _ = some _ from hx123_0)); (try have hy123_1 := fun (n_ : Nat) => (show ((((((w38.drewN n_).setCell ⟨gb119, 0, none⟩ (.int .i64 ((rd_T35 t106 (ji32)).f0))).setCell ⟨gb119, 1, none⟩ (.string ((rd_T35 t106 (ji32)).f1))).setCell ⟨gb119, 2, none⟩ (.int .i64 ((rd_T35 t106 (ji32)).f2))).setCell ⟨gb119, 2, none⟩ (.int .i64 (wrap64 ((wrap64 (((rd_T35 t106 (ji32)).f2) + (a0.size : Int))) + 1))))).cell? _ = some _ from hx123_1)); (try have hy123_2 := fun (n_ : Nat) => (show ((((((w38.drewN n_).setCell ⟨gb119, 0, none⟩ (.int .i64 ((rd_T35 t106 (ji32)).f0))).setCell ⟨gb119, 1, none⟩ (.string ((rd_T35 t106 (ji32)).f1))).setCell ⟨gb119, 2, none⟩ (.int .i64 ((rd_T35 t106 (ji32)).f2))).setCell ⟨gb119, 2, none⟩ (.int .i64 (wrap64 ((wrap64 (((rd_T35 t106 (ji32)).f2) + (a0.size : Int))) + 1))))).cell? _ = some _ from hx123_2)); clear hn123_0; clear hn123_1; clear hn123_2; clear hn123_3; replace p123 := eq_true p123; replace q123 := eq_true q123)); try go_wp2_with (first | ((with_reducible refine gate_dst (N := 15) rfl ?_); (try (refine gate_guard (by rfl) ?_; dsimp only)); refine box_event ?hg (N := 15) ?hd (cs := #[.int .i64 0, .string (⟨#[]⟩ : ByteArray), .int .i64 0]) (t := 35) ?hr ?_; (case hd => rfl); (case hg => rfl); (case hr => first | (go_simp; done) | (go_simp; rfl)); intro gb119 hg w38 hbox hb; have n0_ := Aside0.mk (Kd.R_below (Kd.R_elderB (by (with_reducible repeat (first | apply Kd.R_alloc | apply Kd.R_drewN | apply Kd.R_drew)); exact HO_5.out) gb119 (Nat.le_of_eq hg.symm)) hb); have n1_ := Aside0.mk (Kd.R_below (Kd.R_elderB (by (with_reducible repeat (first | apply Kd.R_alloc | apply Kd.R_drewN | apply Kd.R_drew)); exact HO_8.out) gb119 (Nat.le_of_eq hg.symm)) hb); have n2_ := Aside0.mk (Kd.R_below (Kd.R_elderB (by (with_reducible repeat (first | apply Kd.R_alloc | apply Kd.R_drewN | apply Kd.R_drew)); exact HO_11.out) gb119 (Nat.le_of_eq hg.symm)) hb); have n3_ := Aside0.mk (below_step (by repeat (first | (with_reducible first | exact HB.out | apply below_alloc | apply pw_below_drewN | apply below_drew1) | exact HB.out)) hb); have n4_ := Aside0.mk (hbox); have n5_ := Aside0.mk ((by rw [hg]; exact (below_size (by repeat (first | (with_reducible first | exact HB.out | apply below_alloc | apply pw_below_drewN | apply below_drew1) | exact HB.out))) : w.heap.size ≤ gb119)); have n6_ := Aside0.mk ((by rw [hg]; exact (below_size (by repeat (first | (with_reducible first | exact HB.out | apply below_alloc | apply pw_below_drewN | apply below_drew1) | exact HB.out))) : w.heap.size ≤ gb119)); clear HO_5; clear HO_8; clear HO_11; clear HB; have HO_5 := n0_; have HO_8 := n1_; have HO_11 := n2_; have HB := n3_; have BK119 := n4_; have GW119 := n5_; have GE119 := n6_; clear n0_ n1_ n2_ n3_ n4_ n5_ n6_; clear hb hbox hg; obtain ⟨Ao39, co39, eo39⟩ := Kd.R_slice HO_5.out; subst eo39; obtain ⟨Ao40, co40, eo40⟩ := Kd.R_slice HO_8.out; subst eo40; have p122 : 0 ≤ ((ji32) : Int) := of_decide_eq_true (by first | (with_reducible assumption) | assumption); have q122 : (ji32) < (t106.length : Int) := of_decide_eq_true (by first | (with_reducible assumption) | assumption); obtain ⟨ad122, e122, hx122_0, hx122_1, hx122_2⟩ := at_T35 (Kd.R_reads' HO_8.out).2.2 (ji32) p122 q122; cases e122; replace p122 := eq_true p122; replace q122 := eq_true q122; have hcz41_0 : w38.cell? ⟨gb119, 0, none⟩ = some (.int .i64 0) := (blk_cell BK119.out 0).trans rfl; have hcz41_1 : w38.cell? ⟨gb119, 1, none⟩ = some (.string (⟨#[]⟩ : ByteArray)) := (blk_cell BK119.out 1).trans rfl; have hcz41_2 : w38.cell? ⟨gb119, 2, none⟩ = some (.int .i64 0) := (blk_cell BK119.out 2).trans rfl; have hfz41_0 := blk_frozen BK119.out 0; have hfz41_1 := blk_frozen BK119.out 1; have hfz41_2 := blk_frozen BK119.out 2; have p123 : 0 ≤ (x14_3 : Int) := of_decide_eq_true (by first | (with_reducible assumption) | assumption); have q123 : x14_3 < (t111.length : Int) := of_decide_eq_true (by first | (with_reducible assumption) | assumption); obtain ⟨ad123, e123, hx123_0, hx123_1, hx123_2⟩ := at_T35 (Kd.R_reads' HO_11.out).2.2 x14_3 p123 q123; cases e123; have hn123_0 : ad123.block ≠ gb119 := Kd.own_blk (by first | exact Kd.R_ne HO_11.out BK119.out (by decide) | exact Kd.R_away HO_11.out (fun _ hk => hk.2) | exact Kd.R_away HO_11.out (fun _ hk => hk.1.2)); have hn123_1 : ad123.block ≠ gb119 := Kd.own_blk (by first | exact Kd.R_ne HO_11.out BK119.out (by decide) | exact Kd.R_away HO_11.out (fun _ hk => hk.2) | exact Kd.R_away HO_11.out (fun _ hk => hk.1.2)); have hn123_2 : ad123.block ≠ gb119 := Kd.own_blk (by first | exact Kd.R_ne HO_11.out BK119.out (by decide) | exact Kd.R_away HO_11.out (fun _ hk => hk.2) | exact Kd.R_away HO_11.out (fun _ hk => hk.1.2)); have hn123_3 : ad123.block ≠ gb119 := Kd.own_blk (by first | exact Kd.R_ne HO_11.out BK119.out (by decide) | exact Kd.R_away HO_11.out (fun _ hk => hk.2) | exact Kd.R_away HO_11.out (fun _ hk => hk.1.2)); replace hx123_0 := (cell_far (p := ⟨gb119, 0, none⟩) (by first | (rw [add_block]; exact hn123_0) | (show (Addr.add _ _).block ≠ _; rw [add_block]; exact hn123_0) | exact hn123_0) (.int .i64 ((rd_T35 t106 (ji32)).f0))).trans hx123_0; replace hx123_1 := (cell_far (p := ⟨gb119, 0, none⟩) (by first | (rw [add_block]; exact hn123_0) | (show (Addr.add _ _).block ≠ _; rw [add_block]; exact hn123_0) | exact hn123_0) (.int .i64 ((rd_T35 t106 (ji32)).f0))).trans hx123_1; replace hx123_2 := (cell_far (p := ⟨gb119, 0, none⟩) (by first | (rw [add_block]; exact hn123_0) | (show (Addr.add _ _).block ≠ _; rw [add_block]; exact hn123_0) | exact hn123_0) (.int .i64 ((rd_T35 t106 (ji32)).f0))).trans hx123_2; replace hx123_0 := (cell_far (p := ⟨gb119, 1, none⟩) (by first | (rw [add_block]; exact hn123_1) | (show (Addr.add _ _).block ≠ _; rw [add_block]; exact hn123_1) | exact hn123_1) (.string ((rd_T35 t106 (ji32)).f1))).trans hx123_0; replace hx123_1 := (cell_far (p := ⟨gb119, 1, none⟩) (by first | (rw [add_block]; exact hn123_1) | (show (Addr.add _ _).block ≠ _; rw [add_block]; exact hn123_1) | exact hn123_1) (.string ((rd_T35 t106 (ji32)).f1))).trans hx123_1; replace hx123_2 := (cell_far (p := ⟨gb119, 1, none⟩) (by first | (rw [add_block]; exact hn123_1) | (show (Addr.add _ _).block ≠ _; rw [add_block]; exact hn123_1) | exact hn123_1) (.string ((rd_T35 t106 (ji32)).f1))).trans hx123_2; replace hx123_0 := (cell_far (p := ⟨gb119, 2, none⟩) (by first | (rw [add_block]; exact hn123_2) | (show (Addr.add _ _).block ≠ _; rw [add_block]; exact hn123_2) | exact hn123_2) (.int .i64 ((rd_T35 t106 (ji32)).f2))).trans hx123_0; replace hx123_1 := (cell_far (p := ⟨gb119, 2, none⟩) (by first | (rw [add_block]; exact hn123_2) | (show (Addr.add _ _).block ≠ _; rw [add_block]; exact hn123_2) | exact hn123_2) (.int .i64 ((rd_T35 t106 (ji32)).f2))).trans hx123_1; replace hx123_2 := (cell_far (p := ⟨gb119, 2, none⟩) (by first | (rw [add_block]; exact hn123_2) | (show (Addr.add _ _).block ≠ _; rw [add_block]; exact hn123_2) | exact hn123_2) (.int .i64 ((rd_T35 t106 (ji32)).f2))).trans hx123_2; replace hx123_0 := (cell_far (p := ⟨gb119, 2, none⟩) (by first | (rw [add_block]; exact hn123_3) | (show (Addr.add _ _).block ≠ _; rw [add_block]; exact hn123_3) | exact hn123_3) (.int .i64 (wrap64 ((wrap64 (((rd_T35 t106 (ji32)).f2) + (a0.size : Int))) + 1)))).trans hx123_0; replace hx123_1 := (cell_far (p := ⟨gb119, 2, none⟩) (by first | (rw [add_block]; exact hn123_3) | (show (Addr.add _ _).block ≠ _; rw [add_block]; exact hn123_3) | exact hn123_3) (.int .i64 (wrap64 ((wrap64 (((rd_T35 t106 (ji32)).f2) + (a0.size : Int))) + 1)))).trans hx123_1; replace hx123_2 := (cell_far (p := ⟨gb119, 2, none⟩) (by first | (rw [add_block]; exact hn123_3) | (show (Addr.add _ _).block ≠ _; rw [add_block]; exact hn123_3) | exact hn123_3) (.int .i64 (wrap64 ((wrap64 (((rd_T35 t106 (ji32)).f2) + (a0.size : Int))) + 1)))).trans hx123_2; (try have hy123_0 := fun (n_ : Nat) => (show ((((((w38.drewN n_).setCell ⟨gb119, 0, none⟩ (.int .i64 ((rd_T35 t106 (ji32)).f0))).setCell ⟨gb119, 1, none⟩ (.string ((rd_T35 t106 (ji32)).f1))).setCell ⟨gb119, 2, none⟩ (.int .i64 ((rd_T35 t106 (ji32)).f2))).setCell ⟨gb119, 2, none⟩ (.int .i64 (wrap64 ((wrap64 (((rd_T35 t106 (ji32)).f2) + (a0.size : Int))) + 1))))).cell? _ = some _ from hx123_0)); (try have hy123_1 := fun (n_ : Nat) => (show ((((((w38.drewN n_).setCell ⟨gb119, 0, none⟩ (.int .i64 ((rd_T35 t106 (ji32)).f0))).setCell ⟨gb119, 1, none⟩ (.string ((rd_T35 t106 (ji32)).f1))).setCell ⟨gb119, 2, none⟩ (.int .i64 ((rd_T35 t106 (ji32)).f2))).setCell ⟨gb119, 2, none⟩ (.int .i64 (wrap64 ((wrap64 (((rd_T35 t106 (ji32)).f2) + (a0.size : Int))) + 1))))).cell? _ = some _ from hx123_1)); (try have hy123_2 := fun (n_ : Nat) => (show ((((((w38.drewN n_).setCell ⟨gb119, 0, none⟩ (.int .i64 ((rd_T35 t106 (ji32)).f0))).setCell ⟨gb119, 1, none⟩ (.string ((rd_T35 t106 (ji32)).f1))).setCell ⟨gb119, 2, none⟩ (.int .i64 ((rd_T35 t106 (ji32)).f2))).setCell ⟨gb119, 2, none⟩ (.int .i64 (wrap64 ((wrap64 (((rd_T35 t106 (ji32)).f2) + (a0.size : Int))) + 1))))).cell? _ = some _ from hx123_2)); clear hn123_0; clear hn123_1; clear hn123_2; clear hn123_3; replace p123 := eq_true p123; replace q123 := eq_true q123)))
                                    go_roundg k3
                                    case measure => have := HJ7.out; have := HJ17.out; have := HK3.out; omega
                                    case rel => exact ⟨(wrap64 (x14_3 + 1)), (by first | rfl | (simp; done) | (simp [*]; done) | (simp [Go.Proofs.YtngeelpfbajppaaDoor.Bs.isEmpty_bne, Go.Proofs.YtngeelpfbajppaaDoor.Bs.isEmpty_beq]; done)), H', ⟨by have := HJ7.out; have := HJ17.out; have := HK3.out; omega⟩, ⟨by (with_reducible repeat (first | apply Kd.R_alloc | apply Kd.R_drewN | apply Kd.R_drew)); exact Kd.R_mono (Kd.R_far (p := ⟨gb119, 2, none⟩) (Kd.R_far (p := ⟨gb119, 2, none⟩) (Kd.R_far (p := ⟨gb119, 1, none⟩) (Kd.R_far (p := ⟨gb119, 0, none⟩) (Kd.R_mono HO_5.out (fun k_ hk => (⟨hk, hk.2⟩ : _ ∧ k_ ≠ gb119))) (fun _ hk => hk.2) (.int .i64 ((rd_T35 t106 (ji32)).f0))) (fun _ hk => hk.2) (.string ((rd_T35 t106 (ji32)).f1))) (fun _ hk => hk.2) (.int .i64 ((rd_T35 t106 (ji32)).f2))) (fun _ hk => hk.2) (.int .i64 (wrap64 ((wrap64 (((rd_T35 t106 (ji32)).f2) + (a0.size : Int))) + 1)))) (fun _ hk => ⟨hk.1.1.1, hk.1.1.2⟩)⟩, ⟨by (with_reducible repeat (first | apply Kd.R_alloc | apply Kd.R_drewN | apply Kd.R_drew)); exact Kd.R_mono (Kd.R_far (p := ⟨gb119, 2, none⟩) (Kd.R_far (p := ⟨gb119, 2, none⟩) (Kd.R_far (p := ⟨gb119, 1, none⟩) (Kd.R_far (p := ⟨gb119, 0, none⟩) (Kd.R_mono HO_8.out (fun k_ hk => (⟨hk, hk.2⟩ : _ ∧ k_ ≠ gb119))) (fun _ hk => hk.2) (.int .i64 ((rd_T35 t106 (ji32)).f0))) (fun _ hk => hk.2) (.string ((rd_T35 t106 (ji32)).f1))) (fun _ hk => hk.2) (.int .i64 ((rd_T35 t106 (ji32)).f2))) (fun _ hk => hk.2) (.int .i64 (wrap64 ((wrap64 (((rd_T35 t106 (ji32)).f2) + (a0.size : Int))) + 1)))) (fun _ hk => ⟨hk.1.1.1, hk.1.1.2⟩)⟩, ⟨by (with_reducible repeat (first | apply Kd.R_alloc | apply Kd.R_drewN | apply Kd.R_drew)); exact Kd.R_mono (Kd.R_far (p := ⟨gb119, 2, none⟩) (Kd.R_far (p := ⟨gb119, 2, none⟩) (Kd.R_far (p := ⟨gb119, 1, none⟩) (Kd.R_far (p := ⟨gb119, 0, none⟩) (Kd.R_mono HO_11.out (fun k_ hk => (⟨hk, hk.2⟩ : _ ∧ k_ ≠ gb119))) (fun _ hk => hk.2) (.int .i64 ((rd_T35 t106 (ji32)).f0))) (fun _ hk => hk.2) (.string ((rd_T35 t106 (ji32)).f1))) (fun _ hk => hk.2) (.int .i64 ((rd_T35 t106 (ji32)).f2))) (fun _ hk => hk.2) (.int .i64 (wrap64 ((wrap64 (((rd_T35 t106 (ji32)).f2) + (a0.size : Int))) + 1)))) (fun _ hk => ⟨hk.1.1.1, hk.1.1.2⟩)⟩, ⟨by repeat (first | (with_reducible first | exact HB.out | apply below_alloc | apply pw_below_drewN | apply below_drew1 | refine below_set ?_ GE119.out) | exact HB.out)⟩⟩
                                · rw [if_neg c35] at H
                                  exact absurd H (by simp)
                              · rw [if_neg c34] at H
                                exact absurd H (by simp)
                            · rw [if_neg c33] at H
                              exact absurd H (by simp)
                        · rw [if_neg c24] at H
                          have c24b0 : decide (x14_3 < (t111.length : Int)) = false := decide_eq_false c24
                          clear c24
                          replace H := Option.bind_eq_some_iff.mp H
                          obtain ⟨t118, A420, H⟩ := H
                          replace H : (some t118) = some r := H
                          have A42 := Aside0.mk A420
                          clear A420
                          obtain rfl := Option.some.inj H
                          obtain ⟨Ao43, co43, eo43⟩ := Kd.R_slice HO_11.out
                          subst eo43
                          go_wp2_with (first | (go_at_call 7; (with_reducible refine (instarlaw08_alive.calls k3  t118 _ ?side1 A42.out).mono ?_); (case side1 => first | exact hG | exact Go.Proofs.YtngeelpfbajppaaDoor.Bs.Gl.below hG (by repeat (first | (with_reducible first | exact HB.out | apply below_alloc | apply pw_below_drewN | apply below_drew1) | exact HB.out)) | (repeat (first | exact hG | refine Go.Proofs.YtngeelpfbajppaaDoor.Bs.Gl.drewN ?_ _))); rintro e w44 ⟨rfl, hb⟩; have n0_ := Aside0.mk (Kd.R_below (by (with_reducible repeat (first | apply Kd.R_alloc | apply Kd.R_drewN | apply Kd.R_drew)); exact HO_5.out) hb); have n1_ := Aside0.mk (Kd.R_below (by (with_reducible repeat (first | apply Kd.R_alloc | apply Kd.R_drewN | apply Kd.R_drew)); exact HO_8.out) hb); have n2_ := Aside0.mk (Kd.R_below (by (with_reducible repeat (first | apply Kd.R_alloc | apply Kd.R_drewN | apply Kd.R_drew)); exact HO_11.out) hb); have n3_ := Aside0.mk (below_step (by repeat (first | (with_reducible first | exact HB.out | apply below_alloc | apply pw_below_drewN | apply below_drew1) | exact HB.out)) hb); clear HO_5; clear HO_8; clear HO_11; clear HB; have HO_5 := n0_; have HO_8 := n1_; have HO_11 := n2_; have HB := n3_; clear n0_ n1_ n2_ n3_; (try clear hb); (try clear hb2); (try clear hk); (try clear hi)))
                          repeat (go_quiet (first | (go_at_call 7; (with_reducible refine (instarlaw08_alive.calls k3  t118 _ ?side1 A42.out).mono ?_); (case side1 => first | exact hG | exact Go.Proofs.YtngeelpfbajppaaDoor.Bs.Gl.below hG (by repeat (first | (with_reducible first | exact HB.out | apply below_alloc | apply pw_below_drewN | apply below_drew1) | exact HB.out)) | (repeat (first | exact hG | refine Go.Proofs.YtngeelpfbajppaaDoor.Bs.Gl.drewN ?_ _))); rintro e w44 ⟨rfl, hb⟩; have n0_ := Aside0.mk (Kd.R_below (by (with_reducible repeat (first | apply Kd.R_alloc | apply Kd.R_drewN | apply Kd.R_drew)); exact HO_5.out) hb); have n1_ := Aside0.mk (Kd.R_below (by (with_reducible repeat (first | apply Kd.R_alloc | apply Kd.R_drewN | apply Kd.R_drew)); exact HO_8.out) hb); have n2_ := Aside0.mk (Kd.R_below (by (with_reducible repeat (first | apply Kd.R_alloc | apply Kd.R_drewN | apply Kd.R_drew)); exact HO_11.out) hb); have n3_ := Aside0.mk (below_step (by repeat (first | (with_reducible first | exact HB.out | apply below_alloc | apply pw_below_drewN | apply below_drew1) | exact HB.out)) hb); clear HO_5; clear HO_8; clear HO_11; clear HB; have HO_5 := n0_; have HO_8 := n1_; have HO_11 := n2_; have HB := n3_; clear n0_ n1_ n2_ n3_; (try clear hb); (try clear hb2); (try clear hk); (try clear hi))); try go_wp2_with (first | (go_at_call 7; (with_reducible refine (instarlaw08_alive.calls k3  t118 _ ?side1 A42.out).mono ?_); (case side1 => first | exact hG | exact Go.Proofs.YtngeelpfbajppaaDoor.Bs.Gl.below hG (by repeat (first | (with_reducible first | exact HB.out | apply below_alloc | apply pw_below_drewN | apply below_drew1) | exact HB.out)) | (repeat (first | exact hG | refine Go.Proofs.YtngeelpfbajppaaDoor.Bs.Gl.drewN ?_ _))); rintro e w44 ⟨rfl, hb⟩; have n0_ := Aside0.mk (Kd.R_below (by (with_reducible repeat (first | apply Kd.R_alloc | apply Kd.R_drewN | apply Kd.R_drew)); exact HO_5.out) hb); have n1_ := Aside0.mk (Kd.R_below (by (with_reducible repeat (first | apply Kd.R_alloc | apply Kd.R_drewN | apply Kd.R_drew)); exact HO_8.out) hb); have n2_ := Aside0.mk (Kd.R_below (by (with_reducible repeat (first | apply Kd.R_alloc | apply Kd.R_drewN | apply Kd.R_drew)); exact HO_11.out) hb); have n3_ := Aside0.mk (below_step (by repeat (first | (with_reducible first | exact HB.out | apply below_alloc | apply pw_below_drewN | apply below_drew1) | exact HB.out)) hb); clear HO_5; clear HO_8; clear HO_11; clear HB; have HO_5 := n0_; have HO_8 := n1_; have HO_11 := n2_; have HB := n3_; clear n0_ n1_ n2_ n3_; (try clear hb); (try clear hb2); (try clear hk); (try clear hi))))
                          go_ret
                          exact ⟨by first | rfl | (simp [errW_none, errW_some] <;> rfl) | (simp [*, errW_none, errW_some] <;> rfl), by repeat (first | (with_reducible first | exact HB.out | apply below_alloc | apply pw_below_drewN | apply below_drew1) | exact HB.out)⟩
            · rw [if_neg c17] at H
              have c17b0 : (t108 == 0) = false := beq_eq_false_iff_ne.mpr c17
              have c17b1 : (t108 != 0) = true := bne_iff_ne.mpr c17
              replace H := Option.bind_eq_some_iff.mp H
              obtain ⟨t117, A450, H⟩ := H
              replace H : (if t117 = true then (if t113 = t108 then (some (t112 == (wrap64 ((wrap64 (t107 + (a0.size : Int))) + 1)))) else (some false)) else (some false)) = some r := H
              have A45 := Aside0.mk A450
              clear A450
              by_cases c46 : t117 = true
              · subst c46
                have H1 : (if t113 = t108 then (some (t112 == (wrap64 ((wrap64 (t107 + (a0.size : Int))) + 1)))) else (some false)) = some r := by rw [if_pos rfl] at H; exact H
                clear H
                have H := H1
                clear H1
                by_cases c47 : t113 = t108
                · rw [if_pos c47] at H
                  have c47b0 : (t113 == t108) = true := beq_iff_eq.mpr c47
                  have c47b1 : (t113 != t108) = false := bne_eq_false_iff_eq.mpr c47
                  clear c47
                  obtain rfl := Option.some.inj H
                  go_wp2_with (first | (go_at_call 7; (with_reducible refine (instarlaw08_alive.calls kj7  true _ ?side1 A45.out).mono ?_); (case side1 => first | exact hG | exact Go.Proofs.YtngeelpfbajppaaDoor.Bs.Gl.below hG (by repeat (first | (with_reducible first | exact HB.out | apply below_alloc | apply pw_below_drewN | apply below_drew1) | exact HB.out)) | (repeat (first | exact hG | refine Go.Proofs.YtngeelpfbajppaaDoor.Bs.Gl.drewN ?_ _))); rintro e w48 ⟨rfl, hb⟩; have n0_ := Aside0.mk (Kd.R_below (by (with_reducible repeat (first | apply Kd.R_alloc | apply Kd.R_drewN | apply Kd.R_drew)); exact HO_5.out) hb); have n1_ := Aside0.mk (Kd.R_below (by (with_reducible repeat (first | apply Kd.R_alloc | apply Kd.R_drewN | apply Kd.R_drew)); exact HO_8.out) hb); have n2_ := Aside0.mk (Kd.R_below (by (with_reducible repeat (first | apply Kd.R_alloc | apply Kd.R_drewN | apply Kd.R_drew)); exact HO_11.out) hb); have n3_ := Aside0.mk (below_step (by repeat (first | (with_reducible first | exact HB.out | apply below_alloc | apply pw_below_drewN | apply below_drew1) | exact HB.out)) hb); clear HO_5; clear HO_8; clear HO_11; clear HB; have HO_5 := n0_; have HO_8 := n1_; have HO_11 := n2_; have HB := n3_; clear n0_ n1_ n2_ n3_; (try clear hb); (try clear hb2); (try clear hk); (try clear hi)))
                  repeat (go_quiet (first | (go_at_call 7; (with_reducible refine (instarlaw08_alive.calls kj7  true _ ?side1 A45.out).mono ?_); (case side1 => first | exact hG | exact Go.Proofs.YtngeelpfbajppaaDoor.Bs.Gl.below hG (by repeat (first | (with_reducible first | exact HB.out | apply below_alloc | apply pw_below_drewN | apply below_drew1) | exact HB.out)) | (repeat (first | exact hG | refine Go.Proofs.YtngeelpfbajppaaDoor.Bs.Gl.drewN ?_ _))); rintro e w48 ⟨rfl, hb⟩; have n0_ := Aside0.mk (Kd.R_below (by (with_reducible repeat (first | apply Kd.R_alloc | apply Kd.R_drewN | apply Kd.R_drew)); exact HO_5.out) hb); have n1_ := Aside0.mk (Kd.R_below (by (with_reducible repeat (first | apply Kd.R_alloc | apply Kd.R_drewN | apply Kd.R_drew)); exact HO_8.out) hb); have n2_ := Aside0.mk (Kd.R_below (by (with_reducible repeat (first | apply Kd.R_alloc | apply Kd.R_drewN | apply Kd.R_drew)); exact HO_11.out) hb); have n3_ := Aside0.mk (below_step (by repeat (first | (with_reducible first | exact HB.out | apply below_alloc | apply pw_below_drewN | apply below_drew1) | exact HB.out)) hb); clear HO_5; clear HO_8; clear HO_11; clear HB; have HO_5 := n0_; have HO_8 := n1_; have HO_11 := n2_; have HB := n3_; clear n0_ n1_ n2_ n3_; (try clear hb); (try clear hb2); (try clear hk); (try clear hi))); try go_wp2_with (first | (go_at_call 7; (with_reducible refine (instarlaw08_alive.calls kj7  true _ ?side1 A45.out).mono ?_); (case side1 => first | exact hG | exact Go.Proofs.YtngeelpfbajppaaDoor.Bs.Gl.below hG (by repeat (first | (with_reducible first | exact HB.out | apply below_alloc | apply pw_below_drewN | apply below_drew1) | exact HB.out)) | (repeat (first | exact hG | refine Go.Proofs.YtngeelpfbajppaaDoor.Bs.Gl.drewN ?_ _))); rintro e w48 ⟨rfl, hb⟩; have n0_ := Aside0.mk (Kd.R_below (by (with_reducible repeat (first | apply Kd.R_alloc | apply Kd.R_drewN | apply Kd.R_drew)); exact HO_5.out) hb); have n1_ := Aside0.mk (Kd.R_below (by (with_reducible repeat (first | apply Kd.R_alloc | apply Kd.R_drewN | apply Kd.R_drew)); exact HO_8.out) hb); have n2_ := Aside0.mk (Kd.R_below (by (with_reducible repeat (first | apply Kd.R_alloc | apply Kd.R_drewN | apply Kd.R_drew)); exact HO_11.out) hb); have n3_ := Aside0.mk (below_step (by repeat (first | (with_reducible first | exact HB.out | apply below_alloc | apply pw_below_drewN | apply below_drew1) | exact HB.out)) hb); clear HO_5; clear HO_8; clear HO_11; clear HB; have HO_5 := n0_; have HO_8 := n1_; have HO_11 := n2_; have HB := n3_; clear n0_ n1_ n2_ n3_; (try clear hb); (try clear hb2); (try clear hk); (try clear hi))))
                  go_ret
                  exact ⟨by first | rfl | (simp [errW_none, errW_some] <;> rfl) | (simp [*, errW_none, errW_some] <;> rfl), by repeat (first | (with_reducible first | exact HB.out | apply below_alloc | apply pw_below_drewN | apply below_drew1) | exact HB.out)⟩
                · rw [if_neg c47] at H
                  have c47b0 : (t113 == t108) = false := beq_eq_false_iff_ne.mpr c47
                  have c47b1 : (t113 != t108) = true := bne_iff_ne.mpr c47
                  exact absurd ((Option.some.inj H).trans hr_.out) (by decide)
              · replace c46 := Bool.eq_false_iff.mpr c46
                subst c46
                have H1 : (some false) = some r := by rw [if_neg (show ¬ (false = true) by decide)] at H; exact H
                clear H
                have H := H1
                clear H1
                exact absurd ((Option.some.inj H).trans hr_.out) (by decide)
    · rw [if_neg c6] at H
      exact absurd H (by simp)
  · rw [if_neg c5] at H
    exact absurd H (by simp)
end Go.Proofs.YtngeelpfbajppaaDoor.PD
end
section
namespace Go.Proofs.YtngeelpfbajppaaDoor.Op
open Go Go.Proofs.YtngeelpfbajppaaDoorW.PrintWords Go.ChangeShapes Go.WideShapes
set_option linter.unusedVariables false
set_option linter.unusedSimpArgs false
def reach (s : ByteArray) : Prop := s.size ≤ 140737488351232
variable {P : Program}
theorem hw_of {H : Type} {ts : List TypeId} {ds : List (DataW H)} (h : (DataW.weightsEach P ts ds).all (· ≤ reachBytes) = true) {j : Nat} {t : TypeId} {d : DataW H} (ht : ts[j]? = some t) (hd : ds[j]? = some d) : ∀ n ∈ d.weights P t, n ≤ reachBytes := fun n hn => by
  simpa using List.all_eq_true.1 h n (DataW.weights_mem_each ht hd n hn)
end Go.Proofs.YtngeelpfbajppaaDoor.Op
end
section
namespace Go.Proofs.YtngeelpfbajppaaDoor.QLexJoins
open Go Go.RowKit Go.Proofs.YtngeelpfbajppaaDoorW.PrintWords Go.Proofs.YtngeelpfbajppaaDoor.PD Go.Proofs.YtngeelpfbajppaaDoor.Op
set_option linter.unusedVariables false
set_option linter.unusedSimpArgs false
def Pure : Prop := ∀ (a0 : ByteArray) (a1 : ByteArray), a0.size ≤ 1048576 → a1.size ≤ 1048576 → ∃ k, instarlaw08_LexJoins.f k a0 a1 = some true
end Go.Proofs.YtngeelpfbajppaaDoor.QLexJoins
end
section
namespace Go.Proofs.YtngeelpfbajppaaDoor.Rk
open Go Go.RowKit Go.Proofs.YtngeelpfbajppaaDoorW.PrintWords
set_option linter.unusedVariables false
set_option linter.unusedSimpArgs false
section
variable {α β : Type}
def Evr (g : Nat → Option α) (v : α) : Prop := ∃ n, ∀ k, n ≤ k → g k = some v
theorem Evr.const {c : Option α} {v : α} (h : c = some v) : Evr (fun _ => c) v := ⟨0, fun _ _ => h⟩
theorem Evr.succ {g : Nat → Option α} {v : α} (h : Evr (fun k => g (k + 1)) v) : Evr g v := by
  obtain ⟨n, h⟩ := h
  exact ⟨n + 1, fun k hk => by
    obtain ⟨j, rfl⟩ : ∃ j, k = j + 1 := ⟨k - 1, by omega⟩
    exact h j (by omega)⟩
theorem Evr.bind {g : Nat → Option α} {f : Nat → α → Option β} {v : α} {u : β} (h : Evr g v) (h' : Evr (fun k => f k v) u) : Evr (fun k => (g k).bind (f k)) u := by
  obtain ⟨n, h⟩ := h
  obtain ⟨m, h'⟩ := h'
  exact ⟨max n m, fun k hk => by
    show (g k).bind (f k) = _
    rw [h k (by omega)]
    exact h' k (by omega)⟩
theorem Evr.bindc {c : Option α} {f : Nat → α → Option β} {v : α} {u : β} (h : c = some v) (h' : Evr (fun k => f k v) u) : Evr (fun k => c.bind (f k)) u := Evr.bind (Evr.const h) h'
theorem Evr.pos {c : Prop} [Decidable c] {a b : Nat → Option α} {v : α} (hc : c) (h : Evr a v) : Evr (fun k => if c then a k else b k) v := by
  obtain ⟨n, h⟩ := h
  exact ⟨n, fun k hk => by
    show (if c then a k else b k) = _
    rw [if_pos hc]
    exact h k hk⟩
theorem Evr.neg {c : Prop} [Decidable c] {a b : Nat → Option α} {v : α} (hc : ¬ c) (h : Evr b v) : Evr (fun k => if c then a k else b k) v := by
  obtain ⟨n, h⟩ := h
  exact ⟨n, fun k hk => by
    show (if c then a k else b k) = _
    rw [if_neg hc]
    exact h k hk⟩
theorem Evr.mono {g : Nat → Option α} {v : α} {n : Nat} (h : g n = some v) (hm : ∀ k, LeO (g k) (g (k + 1))) : Evr g v := by
  refine ⟨n, fun k hk => ?_⟩
  obtain ⟨d, rfl⟩ : ∃ d, k = n + d := ⟨k - n, by omega⟩
  clear hk
  induction d with
  | zero => exact h
  | succ d ih => exact hm _ _ ih
theorem Evr.ex {g : Nat → Option α} {v : α} (h : Evr g v) : ∃ k, g k = some v := by
  obtain ⟨n, h⟩ := h
  exact ⟨n, h n (Nat.le_refl _)⟩
end
theorem wrap_eq {x : Int} (h0 : -9223372036854775808 ≤ x) (h1 : x ≤ 9223372036854775807) : wrap64 x = x := by unfold wrap64; omega
theorem wrap_nat {n : Nat} (h : n < 9223372036854775807) : wrap64 ((n : Int) + 1) = ((n + 1 : Nat) : Int) := by unfold wrap64; omega
theorem ba_ext {x y : ByteArray} (h : x.data.toList = y.data.toList) : x = y := by
  cases x with | mk a => cases y with | mk b => exact congrArg ByteArray.mk (Array.toList_inj.1 h)
theorem dl (s : ByteArray) : s.data.toList.length = s.size := Array.length_toList
theorem ext_drop (s : ByteArray) (i : Nat) : (s.extract i s.size).data.toList = s.data.toList.drop i := by
  rw [Lib.extract_data, List.take_of_length_le (by rw [List.length_drop, dl]; omega)]
theorem ext_size (s : ByteArray) (i : Nat) : (s.extract i s.size).size = s.size - i := by rw [← dl, ext_drop, List.length_drop, dl]
end Go.Proofs.YtngeelpfbajppaaDoor.Rk
end
section
namespace Go.Proofs.YtngeelpfbajppaaDoor.Ly
open Go Go.RowKit Go.Proofs.YtngeelpfbajppaaDoorW.PrintWords Go.Proofs.YtngeelpfbajppaaDoor.PD Go.Proofs.YtngeelpfbajppaaDoor.Rk
set_option linter.unusedVariables false
set_option linter.unusedSimpArgs false
def rp (name : Bool) (b : UInt8) : Bool := if name = true then lx_pN (b.toNat : Int) else lx_pF (b.toNat : Int)
theorem q39n : lx_q [39] = some ([], 1) := rfl
theorem q39 (l : List UInt8) : lx_q (39 :: 39 :: l) = (lx_q l).map fun x => (39 :: x.1, x.2 + 2) := by simp [lx_q]
theorem q39e {c : UInt8} (h : ¬ c = 39) (l : List UInt8) : lx_q (39 :: c :: l) = some ([], 1) := by simp [lx_q, h]
theorem qne {b : UInt8} (h : ¬ b = 39) (l : List UInt8) : lx_q (b :: l) = (lx_q l).map fun x => (b :: x.1, x.2 + 1) := by
  cases l with
  | nil => simp [lx_q, h]
  | cons c l => simp [lx_q, h]
abbrev c1 (x : Int × ByteArray × Int) : Int × ByteArray × Int × Int := (x.1, x.2.1, 0, x.2.2)
def mk (s : ByteArray) : Int × ByteArray × Int := if lx_at s 12 0 = -1 then (0, ⟨#[]⟩, 0) else (3, lx_marks.getD (lx_at s 12 0).toNat ByteArray.empty, ((lx_marks.getD (lx_at s 12 0).toNat ByteArray.empty).size : Int))
theorem one_eq (s : ByteArray) (b : UInt8) (l : List UInt8) (hb : s.data.toList = b :: l) : lx_one s =
    if lx_pL (b.toNat : Int) = true then (if lx_run (rp true) s.data.toList ≤ 20 then (0, s.extract 0 (lx_run (rp true) s.data.toList), (lx_run (rp true) s.data.toList : Int)) else (0, ⟨#[]⟩, 0))
    else if lx_pF (b.toNat : Int) = true then (if lx_run (rp false) s.data.toList ≤ 19 then (1, s.extract 0 (lx_run (rp false) s.data.toList), (lx_run (rp false) s.data.toList : Int)) else (0, ⟨#[]⟩, 0))
    else if b = 39 ∧ (lx_qr (lx_q l)).1.size ≤ 200 then (2, (lx_qr (lx_q l)).1, (lx_qr (lx_q l)).2)
    else mk s := by
  have e1 : rp true = fun b => lx_pN (b.toNat : Int) := by funext b; simp [rp]
  have e2 : rp false = fun b => lx_pF (b.toNat : Int) := by funext b; simp [rp]
  rw [e1, e2]
  unfold lx_one mk
  rw [hb]
theorem at_eq (s : ByteArray) : lx_at s 12 0 = if Lib.hasPrefix s.data.toList [60, 61] = true then 0 else if Lib.hasPrefix s.data.toList [62, 61] = true then 1 else if Lib.hasPrefix s.data.toList [60, 62] = true then 2 else
    if Lib.hasPrefix s.data.toList [40] = true then 3 else if Lib.hasPrefix s.data.toList [41] = true then 4 else if Lib.hasPrefix s.data.toList [44] = true then 5 else if Lib.hasPrefix s.data.toList [61] = true then 6 else
    if Lib.hasPrefix s.data.toList [60] = true then 7 else if Lib.hasPrefix s.data.toList [62] = true then 8 else if Lib.hasPrefix s.data.toList [43] = true then 9 else if Lib.hasPrefix s.data.toList [45] = true then 10 else
    if Lib.hasPrefix s.data.toList [42] = true then 11 else -1 := rfl
def m1 (b : UInt8) : Int := if (40 == b) = true then 3 else if (41 == b) = true then 4 else if (44 == b) = true then 5 else if (61 == b) = true then 6 else if (60 == b) = true then 7 else if (62 == b) = true then 8 else if (43 == b) = true then 9 else if (45 == b) = true then 10 else if (42 == b) = true then 11 else -1
theorem at_1 (s : ByteArray) (b : UInt8) (hb : s.data.toList = [b]) : lx_at s 12 0 = m1 b := by
  rw [at_eq, hb]
  simp [Lib.hasPrefix, List.isPrefixOf, m1]
theorem at_2 (s : ByteArray) (b c : UInt8) (l : List UInt8) (hb : s.data.toList = b :: c :: l) : lx_at s 12 0 = if (60 == b && 61 == c) = true then 0 else if (62 == b && 61 == c) = true then 1 else if (60 == b && 62 == c) = true then 2 else m1 b := by
  rw [at_eq, hb]
  simp [Lib.hasPrefix, List.isPrefixOf, m1]
theorem q_le : ∀ (l t : List UInt8) (n : Nat), lx_q l = some (t, n) → n ≤ l.length
  | [], t, n, h => by simp [lx_q] at h
  | [b], t, n, h => by
    simp only [lx_q] at h
    split at h
    · simp only [Option.some.injEq, Prod.mk.injEq] at h; obtain ⟨rfl, rfl⟩ := h; simp
    · cases h
  | b :: c :: l, t, n, h => by
    simp only [lx_q] at h
    split at h
    · split at h
      · obtain ⟨x, hx, h⟩ := Option.map_eq_some_iff.1 h
        simp only [Prod.mk.injEq] at h
        have := q_le l x.1 x.2 hx
        simp only [List.length_cons]; omega
      · simp only [Option.some.injEq, Prod.mk.injEq] at h; obtain ⟨rfl, rfl⟩ := h; simp
    · obtain ⟨x, hx, h⟩ := Option.map_eq_some_iff.1 h
      simp only [Prod.mk.injEq] at h
      have := q_le (c :: l) x.1 x.2 hx
      simp only [List.length_cons] at this ⊢; omega
theorem at_hit (s : ByteArray) : ∀ n i (j : Nat), lx_at s n i = (j : Int) → Lib.hasPrefix s.data.toList (lx_marks.getD j ByteArray.empty).data.toList = true
  | 0, i, j, h => by simp [lx_at] at h
  | n + 1, i, j, h => by
    unfold lx_at at h
    split at h
    · rename_i hp
      have : i = j := by omega
      subst this; exact hp
    · exact at_hit s n (i + 1) j h
theorem mk_le (s : ByteArray) : 0 ≤ (mk s).2.2 ∧ (mk s).2.2 ≤ s.size := by
  unfold mk
  rcases lx_at_cases s 12 0 with h | ⟨j, h1, h2⟩
  · rw [if_pos h]; simp
  · rw [if_neg (by omega), h2, Int.toNat_natCast]
    have hp := at_hit s 12 0 j h2
    have hl := (List.isPrefixOf_iff_prefix.1 hp).length_le
    rw [dl, dl] at hl
    exact ⟨by simp only; omega, by simp only; omega⟩
theorem one_le (s : ByteArray) : 0 ≤ (lx_one s).2.2 ∧ (lx_one s).2.2 ≤ s.size := by
  cases hb : s.data.toList with
  | nil => unfold lx_one; rw [hb]; simp
  | cons b l =>
    rw [one_eq s b l hb]
    have h1 := lx_run_le (rp true) s.data.toList
    have h2 := lx_run_le (rp false) s.data.toList
    have hz := dl s
    split
    · split
      · exact ⟨by simp only; omega, by simp only; omega⟩
      · simp
    split
    · split
      · exact ⟨by simp only; omega, by simp only; omega⟩
      · simp
    split
    · cases hq : lx_q l with
      | none => simp [lx_qr]
      | some x =>
        have := q_le l x.1 x.2 hq
        rw [hb, List.length_cons] at hz
        simp only [lx_qr]
        exact ⟨by omega, by omega⟩
    · exact mk_le s
def blank (b : UInt8) : Bool := ([32, 9, 10] : List UInt8).contains b
def wd (s : ByteArray) : Nat → List S35 → Nat → List S35 × Int × Int
  | 0, acc, i => (acc, 0, 0)
  | n + 1, acc, i =>
    if i < s.size then
      if blank (s.data.toList.getD i 0) = true then wd s n acc (i + 1)
      else if (lx_one (s.extract i s.size)).2.2 = 0 then ([], (i : Int), 81)
      else wd s n (acc ++ [⟨(lx_one (s.extract i s.size)).1, (lx_one (s.extract i s.size)).2.1, (i : Int)⟩]) (i + (lx_one (s.extract i s.size)).2.2.toNat)
    else (acc, 0, 0)
def tl (s : ByteArray) (i : Nat) : Nat := ((s.data.toList.drop i).dropWhile blank).length
theorem dw_le (p : UInt8 → Bool) : ∀ l : List UInt8, (l.dropWhile p).length ≤ l.length
  | [] => Nat.le_refl _
  | b :: l => by
    have := dw_le p l
    rw [List.dropWhile_cons]
    split
    · simp only [List.length_cons]; omega
    · exact Nat.le_refl _
theorem tl_le (s : ByteArray) (i : Nat) : tl s i ≤ s.size - i := by
  have := dw_le blank (s.data.toList.drop i)
  rw [List.length_drop, dl] at this
  exact this
theorem trim_eq (s : ByteArray) (i : Nat) : ∃ T, strings_TrimLeft.f (s.extract i s.size) (⟨#[32, 9, 10]⟩ : ByteArray) = some T ∧ T.size = tl s i := by
  refine ⟨_, by unfold strings_TrimLeft.f; rw [if_pos (by decide), if_pos (by decide)], ?_⟩
  rw [← dl]
  simp only [Lib.trimLeftS, ext_drop]
  rfl
def rnd (k : Nat) (s : ByteArray) (acc : List S35) (p : Nat) : Option (List S35 × Int × Int) :=
  if (p : Int) = (s.size : Int) then some (acc, 0, 0) else (lex_one.f (s.extract p s.size)).bind fun bt => if bt.2.2.2 = 0 then some ([], (p : Int), 81) else if acc.length < 4398046511104 then lex_Words.l0 k s (acc ++ [(⟨bt.1, bt.2.1, (p : Int)⟩ : S35)]) (wrap64 ((p : Int) + bt.2.2.2)) else none
theorem step_eq (k : Nat) (s : ByteArray) (acc : List S35) (i : Nat) (hs : s.size ≤ 2200000) (hi : i ≤ s.size) : lex_Words.l0 (k + 1) s acc (i : Int) = rnd k s acc (s.size - tl s i) := by
  obtain ⟨T, h1, h2⟩ := trim_eq s i
  have h3 := tl_le s i
  have e1 : wrap64 ((i : Int) + wrap64 (((s.size - i : Nat) : Int) - (T.size : Int))) = ((s.size - tl s i : Nat) : Int) := by
    rw [wrap_eq (x := ((s.size - i : Nat) : Int) - (T.size : Int)) (by omega) (by omega), wrap_eq (by omega) (by omega)]
    omega
  simp only [lex_Words.l0, Int.toNat_natCast, h1, Option.bind_some, e1]
  rw [if_pos (by omega), if_pos (by omega)]
  unfold rnd
  by_cases c : ((s.size - tl s i : Nat) : Int) = (s.size : Int)
  · rw [if_pos c, if_pos c]
  · rw [if_neg c, if_neg c, if_pos (by omega), if_pos (by omega)]
theorem getD_get {l : List UInt8} {i : Nat} (h : i < l.length) : l.getD i 0 = l[i] := by rw [List.getD_eq_getElem?_getD, List.getElem?_eq_getElem h]; rfl
theorem tl_blank {s : ByteArray} {i : Nat} (h : i < s.size) (hb : blank (s.data.toList.getD i 0) = true) : tl s i = tl s (i + 1) := by
  have h' : i < s.data.toList.length := by rw [dl]; exact h
  rw [getD_get h'] at hb
  unfold tl
  rw [List.drop_eq_getElem_cons h', List.dropWhile_cons, if_pos hb]
theorem tl_word {s : ByteArray} {i : Nat} (h : i < s.size) (hb : ¬ blank (s.data.toList.getD i 0) = true) : tl s i = s.size - i := by
  have h' : i < s.data.toList.length := by rw [dl]; exact h
  rw [getD_get h'] at hb
  unfold tl
  rw [List.drop_eq_getElem_cons h', List.dropWhile_cons, if_neg hb, ← List.drop_eq_getElem_cons h', List.length_drop, dl]
theorem same_step (s : ByteArray) (acc : List S35) (i : Nat) (hs : s.size ≤ 2200000) (h : i < s.size) (hb : blank (s.data.toList.getD i 0) = true) (k : Nat) : lex_Words.l0 k s acc (i : Int) = lex_Words.l0 k s acc ((i + 1 : Nat) : Int) := by
  cases k with
  | zero => rfl
  | succ k => rw [step_eq k s acc i hs (by omega), step_eq k s acc (i + 1) hs (by omega), tl_blank h hb]
theorem wp_l (s : ByteArray) (hs : s.size ≤ 2200000) : ∀ n acc i, s.size < n + i → i ≤ s.size → acc.length ≤ i → Evr (fun k => lex_Words.l0 k s acc (i : Int)) (wd s n acc i)
  | 0, acc, i, h1, h2, h3 => by omega
  | n + 1, acc, i, h1, h2, h3 => by
    unfold wd
    by_cases c : i < s.size
    · rw [if_pos c]
      by_cases b : blank (s.data.toList.getD i 0) = true
      · rw [if_pos b]
        have ih := wp_l s hs n acc (i + 1) (by omega) (by omega) (by omega)
        simp only [same_step s acc i hs c b]
        exact ih
      · rw [if_neg b]
        have hz := ext_size s i
        have ho := one_le (s.extract i s.size)
        rw [hz] at ho
        have hf : lex_one.f (s.extract i s.size) = some (c1 (lx_one (s.extract i s.size))) := by
          unfold lex_one.f
          rw [if_pos (by omega), if_pos (by omega)]
        have hst : ∀ k, lex_Words.l0 (k + 1) s acc (i : Int) = rnd k s acc i := fun k => by
          rw [step_eq k s acc i hs (by omega), tl_word c b, show s.size - (s.size - i) = i by omega]
        refine Evr.succ ?_
        simp only [hst, rnd]
        refine Evr.neg (by omega) (Evr.bindc hf ?_)
        by_cases z : (lx_one (s.extract i s.size)).2.2 = 0
        · rw [if_pos z]
          exact Evr.pos z (Evr.const rfl)
        · rw [if_neg z]
          refine Evr.neg z (Evr.pos (by omega) ?_)
          have e : wrap64 ((i : Int) + (lx_one (s.extract i s.size)).2.2) = ((i + (lx_one (s.extract i s.size)).2.2.toNat : Nat) : Int) := by rw [wrap_eq (by omega) (by omega)]; omega
          show Evr (fun k => lex_Words.l0 k s (acc ++ [⟨(lx_one (s.extract i s.size)).1, (lx_one (s.extract i s.size)).2.1, (i : Int)⟩]) (wrap64 ((i : Int) + (lx_one (s.extract i s.size)).2.2))) _
          rw [e]
          exact wp_l s hs n _ _ (by omega) (by omega) (by rw [List.length_append]; simp only [List.length_cons, List.length_nil]; omega)
    · rw [if_neg c]
      have hi : i = s.size := by omega
      have ht : tl s i = 0 := by have := tl_le s i; omega
      have hst : ∀ k, lex_Words.l0 (k + 1) s acc (i : Int) = some (acc, 0, 0) := fun k => by
        rw [step_eq k s acc i hs h2, ht]
        unfold rnd
        rw [if_pos (by omega)]
      refine Evr.succ ?_
      simp only [hst]
      exact Evr.const rfl
theorem words_ev (s : ByteArray) (hs : s.size ≤ 2200000) : Evr (fun k => lex_Words.f k s) (wd s (s.size + 1) [] 0) := by
  unfold lex_Words.f
  exact wp_l s hs (s.size + 1) [] 0 (by omega) (Nat.zero_le _) (Nat.zero_le _)
end Go.Proofs.YtngeelpfbajppaaDoor.Ly
end
section
namespace Go.Proofs.YtngeelpfbajppaaDoor.Ko
open Go Go.RowKit
set_option linter.unusedVariables false
set_option linter.unusedSimpArgs false
def val : List UInt8 → Nat
  | [] => 0
  | a :: p => a.toNat * 256 ^ p.length + val p
def repl1 (c : UInt8) (new : List UInt8) : List UInt8 → List UInt8
  | [] => []
  | b :: s => if b = c then new ++ repl1 c new s else b :: repl1 c new s
end Go.Proofs.YtngeelpfbajppaaDoor.Ko
end
section
namespace Go.Proofs.YtngeelpfbajppaaDoor.Ly
open Go Go.RowKit Go.Proofs.YtngeelpfbajppaaDoorW.PrintWords Go.Proofs.YtngeelpfbajppaaDoor.PD Go.Proofs.YtngeelpfbajppaaDoor.Rk Go.Proofs.YtngeelpfbajppaaDoor.Ko
set_option linter.unusedVariables false
set_option linter.unusedSimpArgs false
theorem repl_hit (s : List UInt8) : repl1 39 [39, 39] (39 :: s) = 39 :: 39 :: repl1 39 [39, 39] s := rfl
theorem repl_miss {c : UInt8} (h : ¬ c = 39) (s : List UInt8) : repl1 39 [39, 39] (c :: s) = c :: repl1 39 [39, 39] s := by rw [repl1, if_neg h]
def show4 (t : ByteArray) : List UInt8 := if t.size ≤ 200 then 39 :: (repl1 39 [39, 39] t.data.toList ++ [39]) else [63]
theorem rd35 {l : List S35} {i : Nat} (h : i < l.length) : rd_T35 l (i : Int) = l[i] := by simp [rd_T35, h]
def wt (y : S35) : List UInt8 := if y.f0 = 2 then show4 y.f1 else y.f1.data.toList
def sz (l : List S35) : Nat := (l.map fun y => y.f1.size).sum
end Go.Proofs.YtngeelpfbajppaaDoor.Ly
end
section
namespace Go.Proofs.YtngeelpfbajppaaDoor.Ly
open Go Go.RowKit Go.Proofs.YtngeelpfbajppaaDoorW.PrintWords Go.Proofs.YtngeelpfbajppaaDoor.PD Go.Proofs.YtngeelpfbajppaaDoor.Rk Go.Proofs.YtngeelpfbajppaaDoor.Ko
set_option linter.unusedVariables false
set_option linter.unusedSimpArgs false
def o (L : List UInt8) : Int × ByteArray × Int := lx_one ⟨L.toArray⟩
theorem o_s (s : ByteArray) : o s.data.toList = lx_one s := congrArg lx_one (ba_ext rfl)
theorem o_len (L : List UInt8) : 0 ≤ (o L).2.2 ∧ (o L).2.2 ≤ L.length := by
  have h := one_le ⟨L.toArray⟩
  rw [← dl] at h
  exact h
theorem ext0 (L : List UInt8) (n : Nat) : (ByteArray.extract ⟨L.toArray⟩ 0 n).data.toList = L.take n := by
  rw [Lib.extract_data]
  simp
def ba (L : List UInt8) : ByteArray := ⟨L.toArray⟩
theorem ba_size (L : List UInt8) : (ba L).size = L.length := by rw [← dl]; rfl
theorem ext_ba (L : List UInt8) (n : Nat) : ByteArray.extract ⟨L.toArray⟩ 0 n = ba (L.take n) := ba_ext (ext0 L n)
theorem o_eq (b : UInt8) (l : List UInt8) : o (b :: l) =
    if lx_pL (b.toNat : Int) = true then (if lx_run (rp true) (b :: l) ≤ 20 then (0, ba ((b :: l).take (lx_run (rp true) (b :: l))), (lx_run (rp true) (b :: l) : Int)) else (0, ⟨#[]⟩, 0))
    else if lx_pF (b.toNat : Int) = true then (if lx_run (rp false) (b :: l) ≤ 19 then (1, ba ((b :: l).take (lx_run (rp false) (b :: l))), (lx_run (rp false) (b :: l) : Int)) else (0, ⟨#[]⟩, 0))
    else if b = 39 ∧ (lx_qr (lx_q l)).1.size ≤ 200 then (2, (lx_qr (lx_q l)).1, (lx_qr (lx_q l)).2)
    else mk ⟨(b :: l).toArray⟩ := by
  unfold o
  rw [one_eq ⟨(b :: l).toArray⟩ b l rfl, ext_ba, ext_ba]
def Stop (R : List UInt8) : Prop := R = [] ∨ ∃ T, R = 32 :: T
theorem rp32 (name : Bool) : rp name 32 = false := by cases name <;> rfl
theorem run_stop (p : UInt8 → Bool) (hp : p 32 = false) {R : List UInt8} (hR : Stop R) : ∀ L, lx_run p (L ++ R) = lx_run p L
  | [] => by
    rcases hR with rfl | ⟨T, rfl⟩
    · rfl
    · simp [lx_run, hp]
  | b :: L => by
    have := run_stop p hp hR L
    simp only [List.cons_append, lx_run, this]
theorem run_take (p : UInt8 → Bool) : ∀ L, lx_run p (L.take (lx_run p L)) = lx_run p L
  | [] => rfl
  | b :: L => by
    have := run_take p L
    by_cases h : p b = true
    · rw [lx_hit h, List.take_succ_cons, lx_hit h, this]
    · have h' : p b = false := by simpa using h
      rw [lx_miss h']; rfl
theorem take_app {L R : List UInt8} {n : Nat} (h : n ≤ L.length) : (L ++ R).take n = L.take n := List.take_append_of_le_length h
theorem q_stop {R : List UInt8} (hR : Stop R) : ∀ (l : List UInt8) (x : List UInt8 × Nat), lx_q l = some x → lx_q (l ++ R) = some x
  | [], x, h => by simp [lx_q] at h
  | [b], x, h => by
    by_cases c : b = 39
    · subst c
      rw [q39n] at h
      rcases hR with rfl | ⟨T, rfl⟩
      · rw [← h]; rfl
      · rw [← h]; exact q39e (by decide) T
    · rw [qne c] at h
      simp [lx_q] at h
  | b :: c :: l, x, h => by
    by_cases e : b = 39
    · subst e
      by_cases f : c = 39
      · subst f
        rw [q39] at h
        obtain ⟨y, hy, rfl⟩ := Option.map_eq_some_iff.1 h
        rw [List.cons_append, List.cons_append, q39, q_stop hR l y hy]; rfl
      · rw [q39e f] at h
        rw [List.cons_append, List.cons_append, q39e f, h]
    · rw [qne e] at h
      obtain ⟨y, hy, rfl⟩ := Option.map_eq_some_iff.1 h
      rw [List.cons_append, qne e, q_stop hR (c :: l) y hy]; rfl
theorem q_repl {R : List UInt8} (hR : Stop R) : ∀ t : List UInt8, lx_q (repl1 39 [39, 39] t ++ 39 :: R) = some (t, (repl1 39 [39, 39] t).length + 1)
  | [] => by
    show lx_q (39 :: R) = _
    rcases hR with rfl | ⟨T, rfl⟩
    · rfl
    · exact q39e (by decide) T
  | c :: t => by
    have ih := q_repl hR t
    by_cases h : c = 39
    · subst h
      rw [repl_hit]
      simp only [List.cons_append, List.length_cons]
      rw [q39, ih]; rfl
    · rw [repl_miss h]
      simp only [List.cons_append, List.length_cons]
      rw [qne h, ih]; rfl
theorem at_lt (s : ByteArray) : ∀ n i, lx_at s n i = -1 ∨ ∃ j : Nat, i ≤ j ∧ j < i + n ∧ lx_at s n i = (j : Int)
  | 0, i => .inl rfl
  | n + 1, i => by
    unfold lx_at
    split
    · exact .inr ⟨i, Nat.le_refl _, by omega, rfl⟩
    · rcases at_lt s n (i + 1) with h | ⟨j, h1, h2, h3⟩
      · exact .inl h
      · exact .inr ⟨j, by omega, by omega, h3⟩
def mkv (i : Int) : Int × ByteArray × Int := if i = -1 then (0, ⟨#[]⟩, 0) else (3, lx_marks.getD i.toNat ByteArray.empty, ((lx_marks.getD i.toNat ByteArray.empty).size : Int))
theorem mk_v (s : ByteArray) : mk s = mkv (lx_at s 12 0) := rfl
theorem mk_stop {R : List UInt8} (hR : Stop R) (b : UInt8) (l : List UInt8) : mk ⟨((b :: l) ++ R).toArray⟩ = mk ⟨(b :: l).toArray⟩ := by
  rcases hR with rfl | ⟨T, rfl⟩
  · rw [List.append_nil]
  rw [mk_v, mk_v]
  cases l with
  | nil =>
    rw [at_2 ⟨(([b] : List UInt8) ++ 32 :: T).toArray⟩ b 32 T rfl, at_1 ⟨([b] : List UInt8).toArray⟩ b rfl]
    simp
  | cons c l => rw [at_2 ⟨((b :: c :: l) ++ 32 :: T).toArray⟩ b c (l ++ 32 :: T) rfl, at_2 ⟨(b :: c :: l).toArray⟩ b c l rfl]
theorem mk_39 (l : List UInt8) : mk ⟨(39 :: l).toArray⟩ = (0, ⟨#[]⟩, 0) := by
  rw [mk_v]
  cases l with
  | nil => rw [at_1 ⟨([39] : List UInt8).toArray⟩ 39 rfl]; rfl
  | cons c l => rw [at_2 ⟨(39 :: c :: l).toArray⟩ 39 c l rfl]; rfl
theorem o_stop {R : List UInt8} (hR : Stop R) (b : UInt8) (l : List UInt8) (h : (o (b :: l)).2.2 ≠ 0) : o ((b :: l) ++ R) = o (b :: l) := by
  have hc : (b :: l) ++ R = b :: (l ++ R) := rfl
  have h1 := run_stop (rp true) (rp32 true) hR (b :: l)
  have h2 := run_stop (rp false) (rp32 false) hR (b :: l)
  have l1 := lx_run_le (rp true) (b :: l)
  have l2 := lx_run_le (rp false) (b :: l)
  have t1 : (b :: (l ++ R)).take (lx_run (rp true) (b :: l)) = (b :: l).take (lx_run (rp true) (b :: l)) := take_app (L := b :: l) l1
  have t2 : (b :: (l ++ R)).take (lx_run (rp false) (b :: l)) = (b :: l).take (lx_run (rp false) (b :: l)) := take_app (L := b :: l) l2
  rw [hc] at h1 h2
  rw [hc, o_eq, o_eq, h1, h2, t1, t2]
  rw [o_eq] at h
  by_cases c1 : lx_pL (b.toNat : Int) = true
  · rw [if_pos c1, if_pos c1]
  rw [if_neg c1, if_neg c1]
  rw [if_neg c1] at h
  by_cases c2 : lx_pF (b.toNat : Int) = true
  · rw [if_pos c2, if_pos c2]
  rw [if_neg c2, if_neg c2]
  rw [if_neg c2] at h
  by_cases c3 : b = 39
  · subst c3
    cases hq : lx_q l with
    | none =>
      rw [hq] at h
      exact absurd (by rw [if_pos ⟨rfl, by decide⟩]; rfl) h
    | some x => rw [q_stop hR l x hq]
                by_cases c4 : (lx_qr (some x)).1.size ≤ 200
                · rw [if_pos ⟨rfl, c4⟩, if_pos ⟨rfl, c4⟩]
                · rw [if_neg (fun h => c4 h.2), if_neg (fun h => c4 h.2), mk_39, mk_39]
  · rw [if_neg (fun h => c3 h.1), if_neg (fun h => c3 h.1)]
    exact mk_stop hR b l
def Tok (y : S35) : Prop := (∀ R, Stop R → o (wt y ++ R) = (y.f0, y.f1, ((wt y).length : Int))) ∧ (∃ b l, wt y = b :: l ∧ blank b = false)
theorem wt_n {k : Int} (hk : ¬ k = 2) (t : ByteArray) (p : Int) : wt ⟨k, t, p⟩ = t.data.toList := by unfold wt; rw [if_neg hk]
theorem tok_mark (p : Int) : ∀ j : Nat, j < 12 → Tok ⟨3, lx_marks.getD j ByteArray.empty, p⟩ := by
  intro j hj
  have key : ∀ (b : UInt8) (l : List UInt8) (M : ByteArray), M.data.toList = b :: l → lx_pL (b.toNat : Int) = false → lx_pF (b.toNat : Int) = false → ¬ b = 39 → blank b = false → mk ⟨(b :: l).toArray⟩ = (3, M, (M.size : Int)) → Tok ⟨3, M, p⟩ := by
    intro b l M hM c1 c2 c3 c4 hm
    unfold Tok
    rw [wt_n (by decide)]
    simp only
    rw [hM]
    refine ⟨fun R hR => ?_, b, l, rfl, c4⟩
    rw [List.cons_append, o_eq, c1, c2, if_neg (by decide), if_neg (by decide), if_neg (fun h => c3 h.1)]
    have := mk_stop hR b l
    rw [List.cons_append] at this
    rw [this, hm, ← dl, hM]
  have k1 : ∀ (b : UInt8) (i : Nat), m1 b = (i : Int) → lx_marks.getD i ByteArray.empty = ba [b] → lx_pL (b.toNat : Int) = false → lx_pF (b.toNat : Int) = false → ¬ b = 39 → blank b = false → Tok ⟨3, lx_marks.getD i ByteArray.empty, p⟩ := by
    intro b i hi hM c1 c2 c3 c4
    refine key b [] _ (by rw [hM]; rfl) c1 c2 c3 c4 ?_
    rw [mk_v, at_1 ⟨([b] : List UInt8).toArray⟩ b rfl, hi]
    unfold mkv
    rw [if_neg (by omega), Int.toNat_natCast]
  match j, hj with
  | 0, _ => exact key 60 [61] _ rfl rfl rfl (by decide) rfl rfl
  | 1, _ => exact key 62 [61] _ rfl rfl rfl (by decide) rfl rfl
  | 2, _ => exact key 60 [62] _ rfl rfl rfl (by decide) rfl rfl
  | 3, _ => exact k1 40 3 rfl rfl rfl rfl (by decide) rfl
  | 4, _ => exact k1 41 4 rfl rfl rfl rfl (by decide) rfl
  | 5, _ => exact k1 44 5 rfl rfl rfl rfl (by decide) rfl
  | 6, _ => exact k1 61 6 rfl rfl rfl rfl (by decide) rfl
  | 7, _ => exact k1 60 7 rfl rfl rfl rfl (by decide) rfl
  | 8, _ => exact k1 62 8 rfl rfl rfl rfl (by decide) rfl
  | 9, _ => exact k1 43 9 rfl rfl rfl rfl (by decide) rfl
  | 10, _ => exact k1 45 10 rfl rfl rfl rfl (by decide) rfl
  | 11, _ => exact k1 42 11 rfl rfl rfl rfl (by decide) rfl
theorem nb_L {b : UInt8} (h : lx_pL (b.toNat : Int) = true) : blank b = false := by
  cases hb : blank b with
  | false => rfl
  | true =>
    simp only [blank, List.contains_cons, List.contains_nil, Bool.or_false, Bool.or_eq_true, beq_iff_eq] at hb
    rcases hb with rfl | rfl | rfl <;> revert h <;> decide
theorem nb_F {b : UInt8} (h : lx_pF (b.toNat : Int) = true) : blank b = false := by
  cases hb : blank b with
  | false => rfl
  | true =>
    simp only [blank, List.contains_cons, List.contains_nil, Bool.or_false, Bool.or_eq_true, beq_iff_eq] at hb
    rcases hb with rfl | rfl | rfl <;> revert h <;> decide
theorem o_tok (b : UInt8) (l : List UInt8) (p : Int) (h : (o (b :: l)).2.2 ≠ 0) : Tok ⟨(o (b :: l)).1, (o (b :: l)).2.1, p⟩ ∧ (o (b :: l)).2.1.size ≤ 200 := by
  rw [o_eq] at h ⊢
  have run : ∀ (name : Bool) (k : Int) (m : Nat), ¬ k = 2 → m ≤ 200 → rp name b = true → blank b = false → lx_run (rp name) (b :: l) ≤ m →
      (∀ l', lx_run (rp name) (b :: l') ≤ m → o (b :: l') = (k, ba ((b :: l').take (lx_run (rp name) (b :: l'))), (lx_run (rp name) (b :: l') : Int))) →
      Tok ⟨k, ba ((b :: l).take (lx_run (rp name) (b :: l))), p⟩ ∧ (ba ((b :: l).take (lx_run (rp name) (b :: l)))).size ≤ 200 := by
    intro name k m hk hm hb hn hr ho
    have hh := lx_hit (l := l) hb
    have ht : (b :: l).take (lx_run (rp name) (b :: l)) = b :: l.take (lx_run (rp name) l) := by rw [hh, List.take_succ_cons]
    have hrt := run_take (rp name) (b :: l)
    have hle := lx_run_le (rp name) (b :: l)
    have hlen : ((b :: l).take (lx_run (rp name) (b :: l))).length = lx_run (rp name) (b :: l) := by rw [List.length_take]; omega
    refine ⟨⟨fun R hR => ?_, b, l.take (lx_run (rp name) l), ?_, hn⟩, by rw [ba_size, hlen]; omega⟩
    · rw [wt_n hk]
      show o ((b :: l).take (lx_run (rp name) (b :: l)) ++ R) = (k, ba ((b :: l).take (lx_run (rp name) (b :: l))), (((b :: l).take (lx_run (rp name) (b :: l))).length : Int))
      rw [hlen]
      have hs := run_stop (rp name) (rp32 name) hR ((b :: l).take (lx_run (rp name) (b :: l)))
      rw [hrt] at hs
      generalize hG : lx_run (rp name) (b :: l) = G at *
      rw [ht] at hs hlen hrt ⊢
      rw [List.cons_append] at hs ⊢
      rw [ho _ (by rw [hs]; exact hr), hs]
      have : (b :: (l.take (lx_run (rp name) l) ++ R)).take G = b :: l.take (lx_run (rp name) l) := by
        rw [← List.cons_append, take_app (by omega), List.take_of_length_le (by omega)]
      rw [this]
    · rw [wt_n hk]
      exact ht
  by_cases c1 : lx_pL (b.toNat : Int) = true
  · rw [if_pos c1] at h ⊢
    by_cases n : lx_run (rp true) (b :: l) ≤ 20
    · rw [if_pos n] at h ⊢
      exact run true 0 20 (by decide) (by decide) (by simp [rp, lx_pN, c1]) (nb_L c1) n (fun l' hl' => by rw [o_eq, if_pos c1, if_pos hl'])
    · rw [if_neg n] at h; exact absurd rfl h
  rw [if_neg c1] at h ⊢
  by_cases c2 : lx_pF (b.toNat : Int) = true
  · rw [if_pos c2] at h ⊢
    by_cases n : lx_run (rp false) (b :: l) ≤ 19
    · rw [if_pos n] at h ⊢
      exact run false 1 19 (by decide) (by decide) (by simp [rp, c2]) (nb_F c2) n (fun l' hl' => by rw [o_eq, if_neg c1, if_pos c2, if_pos hl'])
    · rw [if_neg n] at h; exact absurd rfl h
  rw [if_neg c2] at h ⊢
  by_cases c3 : b = 39 ∧ (lx_qr (lx_q l)).1.size ≤ 200
  · obtain ⟨rfl, c4⟩ := c3
    rw [if_pos ⟨rfl, c4⟩] at h ⊢
    cases hq : lx_q l with
    | none => rw [hq] at h; exact absurd rfl h
    | some x =>
      rw [hq] at c4
      have hx : x.1.length ≤ 200 := by have := ba_size x.1; unfold ba at this; simp only [lx_qr] at c4; omega
      have hw : wt ⟨2, ba x.1, p⟩ = 39 :: (repl1 39 [39, 39] x.1 ++ [39]) := by
        unfold wt show4
        rw [if_pos rfl]
        show (if (ba x.1).size ≤ 200 then _ else _) = _
        rw [ba_size, if_pos hx]
        rfl
      refine ⟨⟨fun R hR => ?_, 39, _, hw, by decide⟩, c4⟩
      show o (wt ⟨2, ba x.1, p⟩ ++ R) = (2, ba x.1, ((wt ⟨2, ba x.1, p⟩).length : Int))
      rw [hw, List.cons_append, List.append_assoc, o_eq, if_neg c1, if_neg c2]
      rw [show ([39] : List UInt8) ++ R = 39 :: R from rfl, q_repl hR]
      have hz : (lx_qr (some (x.1, (repl1 39 [39, 39] x.1).length + 1))).1.size ≤ 200 := by
        have := ba_size x.1
        simp only [lx_qr]
        unfold ba at this
        omega
      rw [if_pos ⟨rfl, hz⟩]
      show ((2, ba x.1, (((repl1 39 [39, 39] x.1).length + 1 : Nat) : Int) + 1) : Int × ByteArray × Int) = _
      simp only [List.length_cons, List.length_append, List.length_nil]
      rfl
  · rw [if_neg c3, mk_v] at h ⊢
    rcases at_lt ⟨(b :: l).toArray⟩ 12 0 with e | ⟨j, e1, e2, e3⟩
    · rw [e] at h; exact absurd rfl h
    · rw [e3]
      have hv : mkv (j : Int) = (3, lx_marks.getD j ByteArray.empty, ((lx_marks.getD j ByteArray.empty).size : Int)) := by
        unfold mkv
        rw [if_neg (by omega), Int.toNat_natCast]
      rw [hv]
      refine ⟨tok_mark p j (by omega), ?_⟩
      have : ∀ j : Nat, j < 12 → (lx_marks.getD j ByteArray.empty).size ≤ 200 := by
        intro j hj
        match j, hj with
        | 0, _ => decide
        | 1, _ => decide
        | 2, _ => decide
        | 3, _ => decide
        | 4, _ => decide
        | 5, _ => decide
        | 6, _ => decide
        | 7, _ => decide
        | 8, _ => decide
        | 9, _ => decide
        | 10, _ => decide
        | 11, _ => decide
      exact this j (by omega)
inductive Wd : List UInt8 → Nat → List S35 → Option Nat → Prop
  | nil (p : Nat) : Wd [] p [] none
  | blank {b : UInt8} {L : List UInt8} {p : Nat} {l : List S35} {e : Option Nat} (hb : Ly.blank b = true) (h : Wd L (p + 1) l e) : Wd (b :: L) p l e
  | bad {b : UInt8} {L : List UInt8} {p : Nat} (hb : Ly.blank b = false) (hz : (o (b :: L)).2.2 = 0) : Wd (b :: L) p [] (some p)
  | word {b : UInt8} {L : List UInt8} {p : Nat} {l : List S35} (hb : Ly.blank b = false) (hz : (o (b :: L)).2.2 ≠ 0) (h : Wd ((b :: L).drop (o (b :: L)).2.2.toNat) (p + (o (b :: L)).2.2.toNat) l none) : Wd (b :: L) p (⟨(o (b :: L)).1, (o (b :: L)).2.1, (p : Int)⟩ :: l) none
  | after {b : UInt8} {L : List UInt8} {p q : Nat} (hb : Ly.blank b = false) (hz : (o (b :: L)).2.2 ≠ 0) (h : Wd ((b :: L).drop (o (b :: L)).2.2.toNat) (p + (o (b :: L)).2.2.toNat) [] (some q)) : Wd (b :: L) p [] (some q)
theorem Wd.ex : ∀ (n : Nat) (L : List UInt8) (p : Nat), L.length ≤ n → ∃ l e, Wd L p l e ∧ (e ≠ none → l = [])
  | _, [], p, _ => ⟨[], none, .nil p, fun h => absurd rfl h⟩
  | 0, b :: L, p, h => by simp at h
  | n + 1, b :: L, p, h => by
    rw [List.length_cons] at h
    by_cases hb : Ly.blank b = true
    · obtain ⟨l, e, h1, h2⟩ := Wd.ex n L (p + 1) (by omega)
      exact ⟨l, e, .blank hb h1, h2⟩
    · have hb' : Ly.blank b = false := by simpa using hb
      by_cases hz : (o (b :: L)).2.2 = 0
      · exact ⟨[], some p, .bad hb' hz, fun _ => rfl⟩
      · have hl := o_len (b :: L)
        obtain ⟨l, e, h1, h2⟩ := Wd.ex n ((b :: L).drop (o (b :: L)).2.2.toNat) (p + (o (b :: L)).2.2.toNat) (by rw [List.length_drop, List.length_cons]; omega)
        cases e with
        | none => exact ⟨_, none, .word hb' hz h1, fun h => absurd rfl h⟩
        | some q =>
          have := h2 (by simp)
          subst this
          exact ⟨[], some q, .after hb' hz h1, fun _ => rfl⟩
def res (acc l : List S35) : Option Nat → List S35 × Int × Int
  | none => (acc ++ l, 0, 0)
  | some q => ([], (q : Int), 81)
theorem Wd.wd {L : List UInt8} {p : Nat} {l : List S35} {e : Option Nat} (h : Wd L p l e) : ∀ (s : ByteArray) (n : Nat) (acc : List S35), s.data.toList.drop p = L → s.size < n + p → wd s n acc p = res acc l e := by
  have nx : ∀ (s : ByteArray) (p : Nat) (b : UInt8) (L : List UInt8), s.data.toList.drop p = b :: L → p < s.size ∧ s.data.toList.getD p 0 = b ∧ o (b :: L) = lx_one (s.extract p s.size) := by
    intro s p b L hd
    have hp : p < s.size := by
      have := congrArg List.length hd
      rw [List.length_drop, dl, List.length_cons] at this
      omega
    have hp' : p < s.data.toList.length := by rw [dl]; exact hp
    refine ⟨hp, ?_, ?_⟩
    · rw [getD_get hp']
      rw [List.drop_eq_getElem_cons hp'] at hd
      exact (List.cons.inj hd).1
    · rw [← hd, ← ext_drop]
      exact o_s _
  induction h with
  | nil p =>
    intro s n acc hd hn
    have hp : s.size ≤ p := by
      have := congrArg List.length hd
      rw [List.length_drop, dl, List.length_nil] at this
      omega
    cases n with
    | zero => simp [Ly.wd, res]
    | succ n => unfold Ly.wd; rw [if_neg (by omega)]; simp [res]
  | @blank b L p l e hb h ih =>
    intro s n acc hd hn
    obtain ⟨h1, h2, h3⟩ := nx s p b L hd
    cases n with
    | zero => omega
    | succ n =>
      unfold Ly.wd
      rw [if_pos h1, h2, if_pos hb]
      refine ih s n acc ?_ (by omega)
      rw [← List.drop_drop, hd]; rfl
  | @bad b L p hb hz =>
    intro s n acc hd hn
    obtain ⟨h1, h2, h3⟩ := nx s p b L hd
    cases n with
    | zero => omega
    | succ n =>
      unfold Ly.wd
      rw [if_pos h1, h2, if_neg (by rw [hb]; decide), ← h3, if_pos hz]
      rfl
  | @word b L p l hb hz h ih =>
    intro s n acc hd hn
    obtain ⟨h1, h2, h3⟩ := nx s p b L hd
    have hl := o_len (b :: L)
    cases n with
    | zero => omega
    | succ n =>
      unfold Ly.wd
      rw [if_pos h1, h2, if_neg (by rw [hb]; decide), ← h3, if_neg hz, ih s n _ (by rw [← List.drop_drop, hd]) (by omega)]
      simp [res]
  | @after b L p q hb hz h ih =>
    intro s n acc hd hn
    obtain ⟨h1, h2, h3⟩ := nx s p b L hd
    have hl := o_len (b :: L)
    cases n with
    | zero => omega
    | succ n =>
      unfold Ly.wd
      rw [if_pos h1, h2, if_neg (by rw [hb]; decide), ← h3, if_neg hz, ih s n _ (by rw [← List.drop_drop, hd]) (by omega)]
      rfl
theorem words_wd (s : ByteArray) (hs : s.size ≤ 2200000) {l : List S35} {e : Option Nat} (h : Wd s.data.toList 0 l e) : Evr (fun k => lex_Words.f k s) (res [] l e) := by
  have := words_ev s hs
  rw [h.wd s (s.size + 1) [] rfl (by omega)] at this
  exact this
theorem Wd.places {L : List UInt8} {p : Nat} {l : List S35} {e : Option Nat} (h : Wd L p l e) : (∀ y ∈ l, (p : Int) ≤ y.f2 ∧ y.f2 < ((p + L.length : Nat) : Int)) ∧ l.Pairwise (fun x y => x.f2 < y.f2) ∧ l.length ≤ L.length ∧ (∀ y ∈ l, Tok y ∧ y.f1.size ≤ 200) ∧ (∀ q, e = some q → p ≤ q ∧ q < p + L.length) := by
  induction h with
  | nil p => exact ⟨by simp, .nil, Nat.le_refl _, by simp, by simp⟩
  | @blank b L p l e hb h ih =>
    obtain ⟨h1, h2, h3, h4, h5⟩ := ih
    refine ⟨fun y hy => ?_, h2, by rw [List.length_cons]; omega, h4, fun q hq => ?_⟩
    · have := h1 y hy
      rw [List.length_cons]; omega
    · have := h5 q hq
      rw [List.length_cons]; omega
  | @bad b L p hb hz => exact ⟨by simp, .nil, Nat.zero_le _, by simp, fun q hq => by obtain rfl := Option.some.inj hq; rw [List.length_cons]; omega⟩
  | @word b L p l hb hz h ih =>
    obtain ⟨h1, h2, h3, h4, h5⟩ := ih
    have hl := o_len (b :: L)
    have ho := o_tok b L (p : Int) hz
    rw [List.length_cons] at hl
    rw [List.length_drop, List.length_cons] at h3
    refine ⟨fun y hy => ?_, List.pairwise_cons.2 ⟨fun y hy => ?_, h2⟩, by rw [List.length_cons, List.length_cons]; omega, fun y hy => ?_, by simp⟩
    · rcases List.mem_cons.1 hy with rfl | hy
      · rw [List.length_cons]; exact ⟨Int.le_refl _, by simp only; omega⟩
      · have := h1 y hy
        rw [List.length_drop] at this
        rw [List.length_cons] at this ⊢
        omega
    · have := h1 y hy
      simp only
      omega
    · rcases List.mem_cons.1 hy with rfl | hy
      · exact ho
      · exact h4 y hy
  | @after b L p q hb hz h ih =>
    obtain ⟨h1, h2, h3, h4, h5⟩ := ih
    have hl := o_len (b :: L)
    rw [List.length_cons] at hl
    refine ⟨by simp, .nil, Nat.zero_le _, by simp, fun q' hq => ?_⟩
    have := h5 q' hq
    rw [List.length_drop] at this
    rw [List.length_cons] at this ⊢
    omega
def sh (d : Nat) (y : S35) : S35 := ⟨y.f0, y.f1, y.f2 + (d : Int)⟩
theorem Wd.shift {L : List UInt8} {p : Nat} {l : List S35} {e : Option Nat} (h : Wd L p l e) (d : Nat) : Wd L (p + d) (l.map (sh d)) (e.map (· + d)) := by
  induction h with
  | nil p => exact .nil _
  | blank hb h ih => exact .blank hb (by rwa [Nat.add_right_comm])
  | bad hb hz => exact .bad hb hz
  | word hb hz h ih => exact .word hb hz (by rwa [Nat.add_right_comm])
  | after hb hz h ih => exact .after hb hz (by rwa [Nat.add_right_comm])
theorem Wd.join {L : List UInt8} {p : Nat} {l : List S35} {e : Option Nat} (h : Wd L p l e) : e = none → ∀ (B : List UInt8) (m : List S35) (f : Option Nat), Wd B (p + L.length + 1) m f → (f ≠ none → m = []) → Wd (L ++ 32 :: B) p (match f with | none => l ++ m | some _ => []) f := by
  induction h with
  | nil p =>
    intro _ B m f hB hf
    cases f with
    | none => exact .blank (by decide) hB
    | some q => have := hf (by simp); subst this; exact .blank (by decide) hB
  | @blank b L p l e hb h ih =>
    intro he B m f hB hf
    refine .blank hb (ih he B m f ?_ hf)
    rw [List.length_cons] at hB
    have e1 : p + 1 + L.length + 1 = p + (L.length + 1) + 1 := by omega
    rw [e1]; exact hB
  | bad hb hz => intro he; cases he
  | @word b L p l hb hz h ih =>
    intro _ B m f hB hf
    have hl := o_len (b :: L)
    have ho := o_stop (R := 32 :: B) (.inr ⟨B, rfl⟩) b L hz
    have hd : ((b :: L) ++ 32 :: B).drop (o (b :: L)).2.2.toNat = (b :: L).drop (o (b :: L)).2.2.toNat ++ 32 :: B := List.drop_append_of_le_length (by omega)
    have hr := ih rfl B m f (by
      have e1 : p + (o (b :: L)).2.2.toNat + ((b :: L).drop (o (b :: L)).2.2.toNat).length + 1 = p + (b :: L).length + 1 := by rw [List.length_drop]; omega
      rw [e1]; exact hB) hf
    rw [← hd] at hr
    rw [List.cons_append] at ho hr ⊢
    rw [← ho] at hr hz
    cases f with
    | none =>
      have := Wd.word hb hz hr
      rw [ho] at this
      exact this
    | some q => exact Wd.after hb hz hr
  | after hb hz h ih => intro he; cases he
end Go.Proofs.YtngeelpfbajppaaDoor.Ly
end
section
namespace Go.Proofs.YtngeelpfbajppaaDoor.LLexJoins
open Go Go.RowKit Go.Proofs.YtngeelpfbajppaaDoorW.PrintWords Go.Proofs.YtngeelpfbajppaaDoor.PD Go.Proofs.YtngeelpfbajppaaDoor.Op Go.Proofs.YtngeelpfbajppaaDoor.Rk Go.Proofs.YtngeelpfbajppaaDoor.Ly
set_option linter.unusedVariables false
set_option linter.unusedSimpArgs false
theorem alive_ev : Evr (fun k => instarlaw08_alive.f k) true := Evr.mono instarlaw08_alive.at_ instarlaw08_alive.mono
theorem out (x0 : ByteArray) (x5 x8 : List S35) (x9 x10 : Int) (x11 : List S35) (x12 x13 : Int) : Evr (fun k => instarlaw08_LexJoins.j0 k x0 x5 x8 x9 x10 x11 x12 x13 true) true := by
  refine Evr.succ ?_
  simp only [instarlaw08_LexJoins.j0]
  exact Evr.pos (by simp) (Evr.bind alive_ev (Evr.const rfl))
theorem loop (a : ByteArray) (l m : List S35) (ha : a.size ≤ 300) (hl : l.length ≤ 300) (hm : m.length ≤ 300) (hp : ∀ y ∈ m, (0 : Int) ≤ y.f2 ∧ y.f2 < 301) :
    ∀ n i, n + i = l.length + m.length → Evr (fun k => instarlaw08_LexJoins.l0 k a l m (l ++ m.map (sh (a.size + 1))) (i : Int)) true
  | 0, i, hn => by
    refine Evr.succ ?_
    simp only [instarlaw08_LexJoins.l0]
    exact Evr.neg (by rw [List.length_append, List.length_map]; omega) (Evr.bind alive_ev (Evr.const rfl))
  | n + 1, i, hn => by
    have c : i < (l ++ m.map (sh (a.size + 1))).length := by rw [List.length_append, List.length_map]; omega
    have ih := loop a l m ha hl hm hp n (i + 1) (by omega)
    have r1 := rd35 c
    have e1 : wrap64 ((i : Int) + 1) = ((i + 1 : Nat) : Int) := wrap_nat (by omega)
    refine Evr.succ ?_
    simp only [instarlaw08_LexJoins.l0]
    rw [r1, e1]
    refine Evr.pos (by omega) ?_
    by_cases d : i < l.length
    · rw [List.getElem_append_left d, rd35 d]
      exact Evr.pos (by omega) (Evr.pos (by omega) (Evr.neg (by simp) ih))
    · have d2 : i - l.length < m.length := by omega
      have ew : wrap64 ((i : Int) - (l.length : Int)) = ((i - l.length : Nat) : Int) := by rw [wrap_eq (by omega) (by omega)]; omega
      rw [ew, rd35 d2, List.getElem_append_right (by omega), List.getElem_map]
      obtain ⟨p1, p2⟩ := hp m[i - l.length] (List.getElem_mem _)
      have ef : wrap64 (wrap64 (m[i - l.length].f2 + (a.size : Int)) + 1) = (sh (a.size + 1) m[i - l.length]).f2 := by
        rw [wrap_eq (x := m[i - l.length].f2 + (a.size : Int)) (by omega) (by omega), wrap_eq (by omega) (by omega)]
        simp only [sh]
        omega
      rw [ef]
      exact Evr.neg (by omega) (Evr.pos (by omega) (Evr.pos (by omega) (Evr.pos (by omega) (Evr.neg (by simp [sh]) ih))))
theorem pure : QLexJoins.Pure := by
  intro a b ha hb
  refine Evr.ex ?_
  obtain ⟨l, e, hl, he⟩ := Wd.ex a.data.toList.length a.data.toList 0 (Nat.le_refl _)
  obtain ⟨m, f, hm, hf⟩ := Wd.ex b.data.toList.length b.data.toList 0 (Nat.le_refl _)
  have h1 := words_wd a (by omega) hl
  have h2 := words_wd b (by omega) hm
  have z32 : (⟨#[32]⟩ : ByteArray).size = 1 := rfl
  have hs : ((a ++ (⟨#[32]⟩ : ByteArray)) ++ b).size = a.size + 1 + b.size := by rw [ByteArray.size_append, ByteArray.size_append, z32]
  have ht : ((a ++ (⟨#[32]⟩ : ByteArray)) ++ b).data.toList = a.data.toList ++ 32 :: b.data.toList := by
    rw [ByteArray.data_append, ByteArray.data_append, Array.toList_append, Array.toList_append]
    simp
  generalize hS : (a ++ (⟨#[32]⟩ : ByteArray)) ++ b = S at hs ht
  obtain ⟨_, _, pl3, _, _⟩ := hl.places
  obtain ⟨pm1, _, pm3, _, pm5⟩ := hm.places
  rw [dl] at pl3 pm3 pm5
  unfold instarlaw08_LexJoins.f
  refine Evr.bind h1 (Evr.bind h2 (Evr.pos (by omega) (Evr.pos (by omega) ?_)))
  rw [hS]
  cases e with
  | some q =>
    obtain ⟨n, g, hn, _⟩ := Wd.ex S.data.toList.length S.data.toList 0 (Nat.le_refl _)
    have h3 := words_wd S (by omega) hn
    refine Evr.bind h3 ?_
    by_cases c1 : (a.size : Int) > 300
    · exact Evr.pos c1 (out _ _ _ _ _ _ _ _)
    refine Evr.neg c1 ?_
    by_cases c2 : (b.size : Int) > 300
    · exact Evr.pos c2 (out _ _ _ _ _ _ _ _)
    exact Evr.neg c2 (out _ _ _ _ _ _ _ _)
  | none =>
    have hj := hl.join rfl b.data.toList (m.map (sh (a.size + 1))) (f.map (· + (a.size + 1))) (by
      have := hm.shift (a.size + 1)
      rw [Nat.zero_add] at this
      rw [dl, Nat.zero_add]
      exact this) (fun h => by
        cases f with
        | none => exact absurd rfl h
        | some q => rw [hf (by simp)]; rfl)
    rw [← ht] at hj
    have h3 := words_wd S (by omega) hj
    refine Evr.bind h3 ?_
    by_cases c1 : (a.size : Int) > 300
    · exact Evr.pos c1 (out _ _ _ _ _ _ _ _)
    refine Evr.neg c1 ?_
    by_cases c2 : (b.size : Int) > 300
    · exact Evr.pos c2 (out _ _ _ _ _ _ _ _)
    refine Evr.neg c2 ?_
    cases f with
    | some q =>
      have hq := pm5 q rfl
      simp only [res, Option.map_some]
      refine Evr.succ ?_
      simp only [instarlaw08_LexJoins.j0]
      have ew : wrap64 (wrap64 ((q : Int) + (a.size : Int)) + 1) = ((q + (a.size + 1) : Nat) : Int) := by
        rw [wrap_eq (x := (q : Int) + (a.size : Int)) (by omega) (by omega), wrap_eq (by omega) (by omega)]
        omega
      rw [ew]
      exact Evr.neg (by decide) (Evr.neg (by decide) (Evr.bind alive_ev (Evr.pos rfl (Evr.pos (by decide) (Evr.const (by simp))))))
    | none =>
      simp only [res, Option.map_none, List.nil_append]
      refine Evr.succ ?_
      simp only [instarlaw08_LexJoins.j0]
      refine Evr.neg (by decide) (Evr.pos (by decide) (Evr.pos (by decide) (Evr.succ ?_)))
      simp only [instarlaw08_LexJoins.j1]
      refine Evr.neg ?_ ?_
      · rw [List.length_append, List.length_map, wrap_eq (by omega) (by omega)]
        simp
      · exact loop a l m (by omega) (by omega) (by omega) (fun y hy => by have := pm1 y hy; rw [dl] at this; omega) (l.length + m.length) 0 rfl
end Go.Proofs.YtngeelpfbajppaaDoor.LLexJoins
end
section
namespace Go.Proofs.YtngeelpfbajppaaDoor.Gs
open Go Go.RowKit
set_option linter.unusedVariables false
theorem tab_reads {P : Program} {W : World} {name : String} {k : IntKind} {zs : List Int} {g : Nat} {t e : TypeId} {n : Nat}
    (hg : P.globalNamed name = some g) (hty : (P.globals[g]?).map (·.type) = some t) (ht : P.underlying t = some (.array n e)) (he : P.underlying e = some (.int k)) (hce : P.cellsOf e = 1) (hct : P.cellsOf t = n)
    (h : Lib.VarReads P W name (Lib.tabData k zs)) : Lib.TabIs P W name k zs := by
  obtain ⟨g', t', cs, fuel, p, hg', ht', hvar, hd⟩ := h
  obtain rfl := Option.some.inj (hg.symm.trans hg')
  obtain rfl := Option.some.inj (hty.symm.trans ht')
  unfold Lib.TabIs
  rw [hvar, ← Lib.cells_of_tab ht he hce hct hd]
theorem pow10_eq : (Rows.laid_internal_strconv_uint64pow10 : DataW Unit) = Lib.tabData .u64 Lib.pow10Tab := by kernel_rfl
theorem start {laid : List (String × DataW Unit)} (W : World) (hsh : W.ShapedOpen Tryd.prog) (hL : laidMet Tryd.prog laid W)
    (h1 : ("internal/strconv.uint64pow10", (Rows.laid_internal_strconv_uint64pow10 : DataW Unit)) ∈ laid)
    : Bs.Gl W :=
  { triv := trivial
    maxLen := Go.Proofs.cell_of_shapedOpen_int (zero := #[.int .i64 0]) (t := 3) hsh (of_decide_eq_true (by kernel_rfl)) (by kernel_rfl) rfl (by kernel_rfl) (by kernel_rfl) Tryd.underlying3
    pow10 := tab_reads (g := 3) (t := 117) (e := 103) (n := 20) (by kernel_rfl) (by kernel_rfl) Tryd.underlying117 Tryd.underlying103 (by kernel_rfl) (by kernel_rfl) (pow10_eq ▸ Lib.laidMet.reads hL h1)
  }
end Go.Proofs.YtngeelpfbajppaaDoor.Gs
end
section
namespace Go.Proofs.YtngeelpfbajppaaDoor.RowLexJoins
open Go Go.ChangeShapes Go.WideShapes Go.ChangeAt Go.RowKit Go.Proofs.YtngeelpfbajppaaDoor.Op Go.Proofs.YtngeelpfbajppaaDoor.QLexJoins Go.Proofs.YtngeelpfbajppaaDoor.PD
open Go.ChangeMaps (open_string shut_string)
set_option linter.unusedVariables false
set_option linter.unusedSimpArgs false
theorem own : ownKnob Tryd.prog.godebug = none := by kernel_rfl
theorem laidOut : laidOutB Tryd.prog = true := by kernel_rfl
def laid : List (String × DataW Unit) := [("math/bits.deBruijn32tab", Rows.laid_math_bits_deBruijn32tab), ("math/bits.deBruijn64tab", Rows.laid_math_bits_deBruijn64tab), ("internal/strconv.uint64pow10", Rows.laid_internal_strconv_uint64pow10), ("unicode/utf8.acceptRanges", Rows.laid_unicode_utf8_acceptRanges), ("unicode/utf8.first", Rows.laid_unicode_utf8_first)]
set_option maxRecDepth 100000 in
theorem lifted (os : Os) (started : os.Started) (H : Type) (enc : TypeId × Value → H) (F : Stop.Interp) :
    ReturnsInHanded {} Tryd.checked os 6 .any ((Rows.OpenSpec.upto Rows.lexJoinsSpec).preRow enc Tryd.prog Tryd.f6 [] false laid) (((Rows.OpenSpec.upto Rows.lexJoinsSpec).at F).post enc Tryd.prog Tryd.f6 false true false false) := by
  refine returnsInHanded_of_row (C := Tryd.checked) (s := (Rows.OpenSpec.upto Rows.lexJoinsSpec)) own started (by kernel_rfl) Tryd.func6
    ⟨World.laidAll Tryd.prog os laid, fun _ _ => 0, ⟨#[], #[.string ⟨#[]⟩, .string ⟨#[]⟩], []⟩, World.laidAll_os _ _ _, World.shaped_of_ZipB (by kernel_rfl) (by kernel_rfl), rfl, (Input.okWide_of_okWideB (base := 0) (by kernel_rfl)).2,
      OpenSpec.preRow_of_cond 8 (x := ([.lit (.string []), .lit (.string [])], [], [])) (by kernel_rfl) (by kernel_rfl) (fun k hk => by cases hk; kernel_rfl) (by kernel_rfl)
        (by rw [MakeChecks.laidMetH_plain _ _ _ (by kernel_rfl)]; exact laidMet_laidAll _ (by kernel_rfl) (by kernel_rfl)), by
      simp only [Assume.holds]
      exact ⟨by simp, by simp, fun _ => Modest.zero, by simp, by simp⟩⟩ ?_
  intro W base args ds gs before hval0 hW _ hcond hsz0 hL hsh _
  have hbk : Rows.uptoBulkAll (ds ++ gs) ≤ 1048576 := of_decide_eq_true (hcond _ rfl)
  have hsz : (DataW.weightsEach Tryd.prog (Tryd.f6.params.toList ++ Rows.lexJoinsSpec.plain.varTypes Tryd.prog) (ds ++ gs)).all (· ≤ reachBytes) = true := hsz0
  have hval : ∀ (j : Nat) t v, Tryd.f6.params[j]? = some t → args[j]? = some v → Value.okWide Tryd.prog W .any base t v := hval0
  have hW' := hW
  obtain ⟨p, q, hA0, hV, rfl, hfz, hnd⟩ := hW
  have hA : DataW.TrodAll enc Tryd.prog W 0 (fun _ => true) true Tryd.f6.params.toList args.toList ds p := hA0
  rw [Tryd.params6] at hA hval hsz
  obtain ⟨v0, vs0, d0, ds0, p0, q0, hargs, rfl, rfl, h0, r0⟩ := trodAll_cons hA
  obtain ⟨v1, vs1, d1, ds1, p1, q1, rfl, rfl, rfl, h1, r1⟩ := trodAll_cons r0
  obtain ⟨rfl, rfl, rfl⟩ := trodAll_nil r1
  obtain rfl : args = #[v0, v1] := by cases args; simp_all
  obtain ⟨rfl, rfl⟩ := trodVars_none hV
  rw [MakeChecks.laidMetH_plain _ _ _ (by kernel_rfl)] at hL
  have hG : Go.Proofs.YtngeelpfbajppaaDoor.Bs.Gl W := Go.Proofs.YtngeelpfbajppaaDoor.Gs.start W hsh hL (by simp [laid])
  have k0 := h0
  have lt0 : ∀ x ∈ p0, x.block < W.heap.size := by obtain ⟨m, hm⟩ := k0; exact DataW.trod_lt m _ _ _ hm
  have w0 := hw_of hsz (j := 0) (t := 9) rfl rfl
  obtain ⟨y0, rfl, rfl, rfl, _⟩ := open_string Tryd.underlying9 (hval 0 9 v0 rfl rfl) h0
  have B0 : reach y0 := by have z := w0 y0.data.toList.length (by simp [DataW.weights]); rw [Array.length_toList] at z; exact z
  have k1 := h1
  have lt1 : ∀ x ∈ p1, x.block < W.heap.size := by obtain ⟨m, hm⟩ := k1; exact DataW.trod_lt m _ _ _ hm
  have w1 := hw_of hsz (j := 1) (t := 9) rfl rfl
  obtain ⟨y1, rfl, rfl, rfl, _⟩ := open_string Tryd.underlying9 (hval 1 9 v1 rfl rfl) h1
  have B1 : reach y1 := by have z := w1 y1.data.toList.length (by simp [DataW.weights]); rw [Array.length_toList] at z; exact z
  simp only [List.cons_append, List.nil_append, List.append_nil, Rows.uptoBulkAll, Rows.uptoBulk] at hbk
  have U0 : y0.size ≤ 1048576 := by have z : y0.data.toList.length = y0.size := Array.length_toList; omega
  have U1 : y1.size ≤ 1048576 := by have z : y1.data.toList.length = y1.size := Array.length_toList; omega
  obtain ⟨k, hp⟩ := Go.Proofs.YtngeelpfbajppaaDoor.LLexJoins.pure y0 y1 U0 U1
  refine (instarlaw08_LexJoins.calls k y0 y1 true W  hG ⟨rfl⟩ hp).mono fun e W' ⟨he, bel⟩ => ?_
  subst he
  exact ⟨_, rfl, _, _, _, [], _, [], hW', trodAll_mk1 (shut_bool Tryd.underlying4 _), (trodAll_cons_mk (Below.trod laidOut (by kernel_rfl) (of_decide_eq_true (by kernel_rfl)) k0 bel lt0) (trodAll_cons_mk (Below.trod laidOut (by kernel_rfl) (of_decide_eq_true (by kernel_rfl)) k1 bel lt1) trodAll_mk0)), rfl, bel.frame _, fun h => by cases h⟩
theorem over : Rows.lexJoinsUptoRow.holds Tryd.pinned (Rows.OpenSpec.upto Rows.lexJoinsSpec) :=
  OpenClaim.holds_of_cond 6 Tryd.f6 rfl rfl rfl rfl rfl rfl rfl ⟨rfl, rfl, rfl, rfl, rfl⟩ rfl rfl rfl rfl rfl (by kernel_rfl) Tryd.func6 (by kernel_rfl)
    (of_decide_eq_true (by kernel_rfl)) (by unfold Func.isWrapper; first | (rw [if_pos (by decide +kernel)]; kernel_rfl) | (rw [if_neg (by decide +kernel)]; exact ⟨rfl, rfl⟩))
    (fun os started H enc _ F => by rw [OpenClaim.pre_eq_preRow]; exact lifted os started H enc F)
theorem card : Rows.LexJoinsUptoCardSaid :=
  Claim7.holds_tied_plain_at .later [] [.data, .data, .data, .data, .pinned] true (true, "55c92eca6da9699fccc8f007f3c40d41333532b4ef65a41c0ec2b0b961e7ecaa") false over (fun _ h => by cases h) (by kernel_rfl) (fun _ h => by cases h) lexJoinsUpto_row_tie rfl ⟨rfl, rfl⟩ (by kernel_rfl) rfl
    (fun f fn hf hfn => by
      obtain rfl : f = 6 := Option.some.inj ((show Tryd.prog.funcNamed "instar/instarlaw08.LexJoins" = some 6 by kernel_rfl).symm.trans hf) |>.symm
      obtain rfl : fn = Tryd.f6 := (Option.some.inj (Tryd.func6.symm.trans hfn)).symm
      exact ⟨by kernel_rfl, fun j t ht => by
        rw [Tryd.params6] at ht
        have hm : t ∈ [9, 9] := by simpa using Array.mem_of_getElem? ht
        have hall : ([9, 9].all fun u => !Tryd.prog.wantsStandIn u) = true := by kernel_rfl
        exact (show Tryd.prog.wantsStandIn t = false by simpa using List.all_eq_true.1 hall t hm)⟩)
    (by kernel_rfl)
end Go.Proofs.YtngeelpfbajppaaDoor.RowLexJoins
namespace Go.Proofs.YtngeelpfbajppaaDoor
theorem lexJoins_holds : Rows.LexJoinsUptoCardSaid := RowLexJoins.card
#print axioms lexJoins_holds
end Go.Proofs.YtngeelpfbajppaaDoor
end
