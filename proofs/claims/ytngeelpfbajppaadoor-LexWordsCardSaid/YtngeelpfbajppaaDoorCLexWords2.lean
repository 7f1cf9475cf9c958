/- Lemmas for the law LexWords: part 2. -/
import Derived.Test.YtngeelpfbajppaaDoorCLexWords0
import Derived.Test.YtngeelpfbajppaaDoorCLexWords1
import Derived.Deep.Slices
import Derived.Lib.SmallJoins
import Derived.SizedLaws
import Derived.Lib.Strings
section
namespace Go.Proofs.YtngeelpfbajppaaDoor.PA
open Go.RowKit Go.Proofs.YtngeelpfbajppaaDoorW.PrintWords Go.Proofs.YtngeelpfbajppaaDoorW.PrintLast Go.Proofs.YtngeelpfbajppaaDoorW.PrintMore
attribute [local go_sem] max2_int min2_int max_two min_two max_three min_three max_four min_four
attribute [local go_sem high] Go.Proofs.YtngeelpfbajppaaDoor.Bs.gtr_bl Go.Proofs.YtngeelpfbajppaaDoor.Bs.leq_bl Go.Proofs.YtngeelpfbajppaaDoor.Bs.cell_set2
set_option linter.unusedVariables false
set_option linter.unusedSimpArgs false
mutual
def instarref08_one.j0 : Nat → ByteArray → Bool → Bool → Int → Bool → Option (Int × ByteArray × Int × Int)
  | 0, _, _, _, _, _ => none
  | k + 1, x0, x4, x5, x6, x18 => if x18 = true then (if 0 ≤ x6 then (if x6 ≤ (x0.size : Int) then (some (0, x0.extract 0 (x6 : Int).toNat, 0, x6)) else (none)) else (none)) else (if x5 = true then (instarref08_one.j1 k x0 x4 x5 x6 (decide (x6 ≤ 19))) else (instarref08_one.j1 k x0 x4 x5 x6 false))
def instarref08_one.j1 : Nat → ByteArray → Bool → Bool → Int → Bool → Option (Int × ByteArray × Int × Int)
  | 0, _, _, _, _, _ => none
  | k + 1, x0, x4, x5, x6, x29 => if x29 = true then (if 0 ≤ x6 then (if x6 ≤ (x0.size : Int) then (some (1, x0.extract 0 (x6 : Int).toNat, 0, x6)) else (none)) else (none)) else (if x4 = true then (instarref08_one.j2 k x0 true) else (instarref08_one.j2 k x0 x5))
def instarref08_one.j2 : Nat → ByteArray → Bool → Option (Int × ByteArray × Int × Int)
  | 0, _, _ => none
  | k + 1, x0, x40 => if x40 = true then (some (0, (⟨#[]⟩ : ByteArray), 0, 0)) else (if 0 < (x0.size : Int) then (if (bt x0 0) = 39 then ((instarref08_quote.f k x0).bind fun bt105 => (if (bt105.1.size : Int) > 200 then (some (0, (⟨#[]⟩ : ByteArray), 0, 0)) else (some (2, bt105.1, 0, bt105.2)))) else (if (x0.size : Int) > 1 then (if 0 ≤ 2 then (if 2 ≤ (x0.size : Int) then (if (x0.extract 0 2).toList = ([60, 61] : List UInt8) then (instarref08_one.j3 k x0 true) else (if (x0.extract 0 2).toList = ([62, 61] : List UInt8) then (instarref08_one.j3 k x0 true) else (instarref08_one.j3 k x0 ((x0.extract 0 2).toList == ([60, 62] : List UInt8))))) else (none)) else (none)) else (instarref08_one.j3 k x0 false))) else (none))
def instarref08_one.j3 : Nat → ByteArray → Bool → Option (Int × ByteArray × Int × Int)
  | 0, _, _ => none
  | k + 1, x0, x79 => if x79 = true then (if 0 ≤ 2 then (if 2 ≤ (x0.size : Int) then (some (3, x0.extract 0 2, 0, 2)) else (none)) else (none)) else (if 0 < (x0.size : Int) then (if (bt x0 0) = 40 then (if 0 ≤ 1 then (if 1 ≤ (x0.size : Int) then (some (3, x0.extract 0 1, 0, 1)) else (none)) else (none)) else (if (bt x0 0) = 41 then (if 0 ≤ 1 then (if 1 ≤ (x0.size : Int) then (some (3, x0.extract 0 1, 0, 1)) else (none)) else (none)) else (if (bt x0 0) = 44 then (if 0 ≤ 1 then (if 1 ≤ (x0.size : Int) then (some (3, x0.extract 0 1, 0, 1)) else (none)) else (none)) else (if (bt x0 0) = 61 then (if 0 ≤ 1 then (if 1 ≤ (x0.size : Int) then (some (3, x0.extract 0 1, 0, 1)) else (none)) else (none)) else (if (bt x0 0) = 60 then (if 0 ≤ 1 then (if 1 ≤ (x0.size : Int) then (some (3, x0.extract 0 1, 0, 1)) else (none)) else (none)) else (if (bt x0 0) = 62 then (if 0 ≤ 1 then (if 1 ≤ (x0.size : Int) then (some (3, x0.extract 0 1, 0, 1)) else (none)) else (none)) else (if (bt x0 0) = 43 then (if 0 ≤ 1 then (if 1 ≤ (x0.size : Int) then (some (3, x0.extract 0 1, 0, 1)) else (none)) else (none)) else (if (bt x0 0) = 45 then (if 0 ≤ 1 then (if 1 ≤ (x0.size : Int) then (some (3, x0.extract 0 1, 0, 1)) else (none)) else (none)) else (if (bt x0 0) = 42 then (if 0 ≤ 1 then (if 1 ≤ (x0.size : Int) then (some (3, x0.extract 0 1, 0, 1)) else (none)) else (none)) else (some (0, (⟨#[]⟩ : ByteArray), 0, 0))))))))))) else (none))
end
def instarref08_one.f (k : Nat) (a0 : ByteArray) : Option (Int × ByteArray × Int × Int) := if 0 < (a0.size : Int) then ((instarref08_letter.f (bt a0 0)).bind fun t102 => ((instarref08_figure.f (bt a0 0)).bind fun t103 => ((instarref08_run.f k a0 t102).bind fun t104 => (if t102 = true then (instarref08_one.j0 k a0 t102 t103 t104 (decide (t104 ≤ 20))) else (instarref08_one.j0 k a0 t102 t103 t104 false))))) else (none)
theorem instarref08_one.mono_l : ∀ k, (∀ y0 y1 y2 y3 y4, LeO (instarref08_one.j0 k y0 y1 y2 y3 y4) (instarref08_one.j0 (k + 1) y0 y1 y2 y3 y4)) ∧ (∀ y0 y1 y2 y3 y4, LeO (instarref08_one.j1 k y0 y1 y2 y3 y4) (instarref08_one.j1 (k + 1) y0 y1 y2 y3 y4)) ∧ (∀ y0 y1, LeO (instarref08_one.j2 k y0 y1) (instarref08_one.j2 (k + 1) y0 y1)) ∧ (∀ y0 y1, LeO (instarref08_one.j3 k y0 y1) (instarref08_one.j3 (k + 1) y0 y1))
  | 0 => ⟨fun _ _ _ _ _ r h => by simp [instarref08_one.j0] at h, fun _ _ _ _ _ r h => by simp [instarref08_one.j1] at h, fun _ _ r h => by simp [instarref08_one.j2] at h, fun _ _ r h => by simp [instarref08_one.j3] at h⟩
  | k + 1 => by
    obtain ⟨ih0, ih1, ih2, ih3⟩ := instarref08_one.mono_l k
    refine ⟨?_, ?_, ?_, ?_⟩
    · intro y0 y1 y2 y3 y4
      unfold instarref08_one.j0
      repeat' first
      | (with_reducible exact ih0 _ _ _ _ _)
      | (with_reducible exact ih1 _ _ _ _ _)
      | (with_reducible exact ih2 _ _)
      | (with_reducible exact ih3 _ _)
      | (with_reducible exact instarref08_quote.mono _ _)
      | (with_reducible exact instarref08_run.mono _ _ _)
      | (with_reducible exact LeO.refl _)
      | (with_reducible exact LeO.none _)
      | (with_reducible refine LeO.ite ?_ ?_)
      | (with_reducible refine LeO.bind ?_ (fun _ => ?_))
      | exact ih0 _ _ _ _ _
      | exact ih1 _ _ _ _ _
      | exact ih2 _ _
      | exact ih3 _ _
      | exact instarref08_quote.mono _ _
      | exact instarref08_run.mono _ _ _
      | exact LeO.none _
      | refine LeO.ite ?_ ?_
      | refine LeO.bind ?_ (fun _ => ?_)
    · intro y0 y1 y2 y3 y4
      unfold instarref08_one.j1
      repeat' first
      | (with_reducible exact ih0 _ _ _ _ _)
      | (with_reducible exact ih1 _ _ _ _ _)
      | (with_reducible exact ih2 _ _)
      | (with_reducible exact ih3 _ _)
      | (with_reducible exact instarref08_quote.mono _ _)
      | (with_reducible exact instarref08_run.mono _ _ _)
      | (with_reducible exact LeO.refl _)
      | (with_reducible exact LeO.none _)
      | (with_reducible refine LeO.ite ?_ ?_)
      | (with_reducible refine LeO.bind ?_ (fun _ => ?_))
      | exact ih0 _ _ _ _ _
      | exact ih1 _ _ _ _ _
      | exact ih2 _ _
      | exact ih3 _ _
      | exact instarref08_quote.mono _ _
      | exact instarref08_run.mono _ _ _
      | exact LeO.none _
      | refine LeO.ite ?_ ?_
      | refine LeO.bind ?_ (fun _ => ?_)
    · intro y0 y1
      unfold instarref08_one.j2
      repeat' first
      | (with_reducible exact ih0 _ _ _ _ _)
      | (with_reducible exact ih1 _ _ _ _ _)
      | (with_reducible exact ih2 _ _)
      | (with_reducible exact ih3 _ _)
      | (with_reducible exact instarref08_quote.mono _ _)
      | (with_reducible exact instarref08_run.mono _ _ _)
      | (with_reducible exact LeO.refl _)
      | (with_reducible exact LeO.none _)
      | (with_reducible refine LeO.ite ?_ ?_)
      | (with_reducible refine LeO.bind ?_ (fun _ => ?_))
      | exact ih0 _ _ _ _ _
      | exact ih1 _ _ _ _ _
      | exact ih2 _ _
      | exact ih3 _ _
      | exact instarref08_quote.mono _ _
      | exact instarref08_run.mono _ _ _
      | exact LeO.none _
      | refine LeO.ite ?_ ?_
      | refine LeO.bind ?_ (fun _ => ?_)
    · intro y0 y1
      unfold instarref08_one.j3
      repeat' first
      | (with_reducible exact ih0 _ _ _ _ _)
      | (with_reducible exact ih1 _ _ _ _ _)
      | (with_reducible exact ih2 _ _)
      | (with_reducible exact ih3 _ _)
      | (with_reducible exact instarref08_quote.mono _ _)
      | (with_reducible exact instarref08_run.mono _ _ _)
      | (with_reducible exact LeO.refl _)
      | (with_reducible exact LeO.none _)
      | (with_reducible refine LeO.ite ?_ ?_)
      | (with_reducible refine LeO.bind ?_ (fun _ => ?_))
      | exact ih0 _ _ _ _ _
      | exact ih1 _ _ _ _ _
      | exact ih2 _ _
      | exact ih3 _ _
      | exact instarref08_quote.mono _ _
      | exact instarref08_run.mono _ _ _
      | exact LeO.none _
      | refine LeO.ite ?_ ?_
      | refine LeO.bind ?_ (fun _ => ?_)
theorem instarref08_one.mono : ∀ a0 k, LeO (instarref08_one.f k a0) (instarref08_one.f (k + 1) a0) := by
  intro a0 k
  obtain ⟨ih0, ih1, ih2, ih3⟩ := instarref08_one.mono_l k
  unfold instarref08_one.f
  repeat' first
      | (with_reducible exact ih0 _ _ _ _ _)
      | (with_reducible exact ih1 _ _ _ _ _)
      | (with_reducible exact ih2 _ _)
      | (with_reducible exact ih3 _ _)
      | (with_reducible exact instarref08_quote.mono _ _)
      | (with_reducible exact instarref08_run.mono _ _ _)
      | (with_reducible exact LeO.refl _)
      | (with_reducible exact LeO.none _)
      | (with_reducible refine LeO.ite ?_ ?_)
      | (with_reducible refine LeO.bind ?_ (fun _ => ?_))
      | exact ih0 _ _ _ _ _
      | exact ih1 _ _ _ _ _
      | exact ih2 _ _
      | exact ih3 _ _
      | exact instarref08_quote.mono _ _
      | exact instarref08_run.mono _ _ _
      | exact LeO.none _
      | refine LeO.ite ?_ ?_
      | refine LeO.bind ?_ (fun _ => ?_)
set_option maxHeartbeats 8000000 in
set_option maxRecDepth 100000 in
theorem instarref08_one.calls (k : Nat) (a0 : ByteArray) (r1 : Int) (r2 : ByteArray) (r3 : Int) (r4 : Int) (w : World) (h : instarref08_one.f k a0 = some (r1, r2, r3, r4)) :
    Calls Tryd.prog 18 #[.string a0] w fun e w' => e = .returned (.tuple #[.agg #[.int .i64 r1, .string r2, .int .i64 r3], .int .i64 r4]) ∧ Below w.heap.size w w' := by
  have hu44 := Tryd.underlying44
  have HB := Aside0.mk (Below.refl w.heap.size w)
  have H : (if 0 < (a0.size : Int) then ((instarref08_letter.f (bt a0 0)).bind fun t102 => ((instarref08_figure.f (bt a0 0)).bind fun t103 => ((instarref08_run.f k a0 t102).bind fun t104 => (if t102 = true then (instarref08_one.j0 k a0 t102 t103 t104 (decide (t104 ≤ 20))) else (instarref08_one.j0 k a0 t102 t103 t104 false))))) else (none)) = some (r1, r2, r3, r4) := h
  clear h
  by_cases c2 : 0 < (a0.size : Int)
  · rw [if_pos c2] at H
    have c2b0 : decide (0 < (a0.size : Int)) = true := decide_eq_true c2
    have c2b1 : decide (0 < a0.size) = true := decide_eq_true (by omega)
    clear c2
    replace H := Option.bind_eq_some_iff.mp H
    obtain ⟨t102, A40, H⟩ := H
    replace H : ((instarref08_figure.f (bt a0 0)).bind fun t103 => ((instarref08_run.f k a0 t102).bind fun t104 => (if t102 = true then (instarref08_one.j0 k a0 t102 t103 t104 (decide (t104 ≤ 20))) else (instarref08_one.j0 k a0 t102 t103 t104 false)))) = some (r1, r2, r3, r4) := H
    have A4 := Aside0.mk A40
    clear A40
    replace H := Option.bind_eq_some_iff.mp H
    obtain ⟨t103, A60, H⟩ := H
    replace H : ((instarref08_run.f k a0 t102).bind fun t104 => (if t102 = true then (instarref08_one.j0 k a0 t102 t103 t104 (decide (t104 ≤ 20))) else (instarref08_one.j0 k a0 t102 t103 t104 false))) = some (r1, r2, r3, r4) := H
    have A6 := Aside0.mk A60
    clear A60
    replace H := Option.bind_eq_some_iff.mp H
    obtain ⟨t104, A70, H⟩ := H
    replace H : (if t102 = true then (instarref08_one.j0 k a0 t102 t103 t104 (decide (t104 ≤ 20))) else (instarref08_one.j0 k a0 t102 t103 t104 false)) = some (r1, r2, r3, r4) := H
    have A7 := Aside0.mk A70
    clear A70
    have HC8 := Aside0.mk H
    clear H
    go_enter Tryd.func18, Tryd.ntmps18
    go_upto_region 4 with (first | ((with_reducible refine gate_dst (N := 2) rfl ?_); refine box_event ?hg (N := 2) ?hd (cs := #[.int .i64 0, .string (⟨#[]⟩ : ByteArray), .int .i64 0]) (t := 44) ?hr ?_; (case hd => rfl); (case hg => rfl); (case hr => first | (go_simp; done) | (go_simp; rfl)); intro gb101 hg w9 hbox hb; have n0_ := Aside0.mk (below_step (by repeat (first | (with_reducible first | exact HB.out | apply below_alloc | apply pw_below_drewN | apply below_drew1) | exact HB.out)) hb); have n1_ := Aside0.mk (hbox); have n2_ := Aside0.mk ((by rw [hg]; exact (below_size (by repeat (first | (with_reducible first | exact HB.out | apply below_alloc | apply pw_below_drewN | apply below_drew1) | exact HB.out))) : w.heap.size ≤ gb101)); have n3_ := Aside0.mk ((by rw [hg]; exact (below_size (by repeat (first | (with_reducible first | exact HB.out | apply below_alloc | apply pw_below_drewN | apply below_drew1) | exact HB.out))) : w.heap.size ≤ gb101)); clear HB; have HB := n0_; have BK101 := n1_; have GW101 := n2_; have GE101 := n3_; clear n0_ n1_ n2_ n3_; clear hb hbox hg; have p3 : 0 ≤ (0 : Int) := (by omega); have q3 : 0 < a0.size := (by have : (0 : Int) < (a0.size : Int) := of_decide_eq_true (by first | (with_reducible assumption) | assumption); omega); have hx3 : ∀ h : 0 < a0.size, ((a0[0]'h).toNat : Int) = bt a0 0 := bt_at a0 0; clear p3; have qi3 : (0 < (a0.size : Int)) = True := eq_true (of_decide_eq_true (by first | (with_reducible assumption) | assumption)); replace q3 := eq_true q3) | ((with_reducible refine gate_callee (f := 37) rfl ?_); refine goesL_ (some 11) rfl rfl Tryd.func37 (by kernel_rfl) rfl #[.int .u8 (bt a0 0)] rfl (by (try simp only [List.map_toArray, List.map_cons, List.map_nil]); first | done | rfl | (simp only [List.length_drop, List.length_take]; rfl)) ?_; (with_reducible refine (instarref08_letter.calls (bt a0 0) t102 _ A4.out).mono ?_); rintro e w' ⟨rfl, ⟨nd, rfl⟩⟩; refine ⟨_, rfl, ?_⟩; have p5 : 0 ≤ (0 : Int) := (by omega); have q5 : 0 < a0.size := (by have : (0 : Int) < (a0.size : Int) := of_decide_eq_true (by first | (with_reducible assumption) | assumption); omega); have hx5 : ∀ h : 0 < a0.size, ((a0[0]'h).toNat : Int) = bt a0 0 := bt_at a0 0; clear p5; have qi5 : (0 < (a0.size : Int)) = True := eq_true (of_decide_eq_true (by first | (with_reducible assumption) | assumption)); replace q5 := eq_true q5) | ((with_reducible refine gate_callee (f := 38) rfl ?_); refine goesL_ (some 14) rfl rfl Tryd.func38 (by kernel_rfl) rfl #[.int .u8 (bt a0 0)] rfl (by (try simp only [List.map_toArray, List.map_cons, List.map_nil]); first | done | rfl | (simp only [List.length_drop, List.length_take]; rfl)) ?_; (with_reducible refine (instarref08_figure.calls (bt a0 0) t103 _ A6.out).mono ?_); rintro e w' ⟨rfl, ⟨nd, rfl⟩⟩; refine ⟨_, rfl, ?_⟩) | ((with_reducible refine gate_callee (f := 39) rfl ?_); refine goesL_ (some 17) rfl rfl Tryd.func39 (by kernel_rfl) rfl #[.string a0, .bool t102] rfl (by (try simp only [List.map_toArray, List.map_cons, List.map_nil]); first | done | rfl | (simp only [List.length_drop, List.length_take]; rfl)) ?_; (with_reducible refine (instarref08_run.calls k a0 t102 t104 _ A7.out).mono ?_); rintro e w' ⟨rfl, ⟨nd, rfl⟩⟩; refine ⟨_, rfl, ?_⟩))
    (try simp only [Act.put, List.setIfInBounds_toArray, List.set_cons_zero, List.set_cons_succ])
    go_cut [18] (fun v18 wc => ∃ (kq : Nat) (x18_7 : Bool), v18 = .bool x18_7 ∧ Aside0 (instarref08_one.j0 kq a0 t102 t103 t104 x18_7 = some (r1, r2, r3, r4)) ∧ Aside0 (kq ≤ k) ∧ Aside0 (wc.heap[gb101]? = some (.cells #[.int .i64 0, .string (⟨#[]⟩ : ByteArray), .int .i64 0] 44 (0, 0))) ∧ Aside0 (Below w.heap.size w wc))
    case first =>
      have H := HC8.out
      clear HC8
      by_cases c10 : t102 = true
      · subst c10
        have H1 : (instarref08_one.j0 k a0 true t103 t104 (decide (t104 ≤ 20))) = some (r1, r2, r3, r4) := by rw [if_pos rfl] at H; exact H
        clear H
        have H := H1
        clear H1
        have H' := Aside0.mk H
        clear H
        go_wp2
        go_meet
        case rel => exact ⟨_, (decide (t104 ≤ 20)), (by first | rfl | (simp; done) | (simp [*]; done) | (simp [Go.Proofs.YtngeelpfbajppaaDoor.Bs.isEmpty_bne, Go.Proofs.YtngeelpfbajppaaDoor.Bs.isEmpty_beq]; done)), H', ⟨by first | omega | exact Nat.le_refl _⟩, ⟨by (with_reducible repeat (first | refine blk_drewN ?_ _ | refine blk_drew ?_ | refine blk_alloc ?_ _)); exact BK101.out⟩, ⟨by repeat (first | (with_reducible first | exact HB.out | apply below_alloc | apply pw_below_drewN | apply below_drew1 | refine below_set ?_ GE101.out) | exact HB.out)⟩⟩
      · replace c10 := Bool.eq_false_iff.mpr c10
        subst c10
        have H1 : (instarref08_one.j0 k a0 false t103 t104 false) = some (r1, r2, r3, r4) := by rw [if_neg (show ¬ (false = true) by decide)] at H; exact H
        clear H
        have H := H1
        clear H1
        have H' := Aside0.mk H
        clear H
        go_wp2
        go_meet
        case rel => exact ⟨_, (false), (by first | rfl | (simp; done) | (simp [*]; done) | (simp [Go.Proofs.YtngeelpfbajppaaDoor.Bs.isEmpty_bne, Go.Proofs.YtngeelpfbajppaaDoor.Bs.isEmpty_beq]; done)), H', ⟨by first | omega | exact Nat.le_refl _⟩, ⟨by (with_reducible repeat (first | refine blk_drewN ?_ _ | refine blk_drew ?_ | refine blk_alloc ?_ _)); exact BK101.out⟩, ⟨by repeat (first | (with_reducible first | exact HB.out | apply below_alloc | apply pw_below_drewN | apply below_drew1 | refine below_set ?_ GE101.out) | exact HB.out)⟩⟩
    case rest =>
      clear HC8
      try clear c1
      try clear c2
      try clear c2b0
      try clear c2b1
      try clear p2
      try clear c3
      try clear p3
      try clear q3
      try clear hx3
      try clear qi3
      try clear p5
      try clear q5
      try clear hx5
      try clear qi5
      try clear c10
      try clear p3
      try clear p5
      try clear q3
      try clear q5
      obtain ⟨kq, x18_7, rfl, HA, HJ7, BK101, HB⟩ := hcut
      cases kq with
      | zero => exact absurd HA.out (by simp [instarref08_one.j0])
      | succ kj7 =>
        have H := HA.out
        clear HA
        simp only [instarref08_one.j0] at H
        by_cases c11 : x18_7 = true
        · subst c11
          have H1 : (if 0 ≤ t104 then (if t104 ≤ (a0.size : Int) then (some (0, a0.extract 0 (t104 : Int).toNat, 0, t104)) else (none)) else (none)) = some (r1, r2, r3, r4) := by rw [if_pos rfl] at H; exact H
          clear H
          have H := H1
          clear H1
          by_cases c12 : 0 ≤ t104
          · rw [if_pos c12] at H
            have c12b0 := eq_true c12
            have c12b1 : decide (0 ≤ t104) = true := decide_eq_true c12
            clear c12
            by_cases c13 : t104 ≤ (a0.size : Int)
            · rw [if_pos c13] at H
              have c13b0 := eq_true c13
              have c13b1 : decide (t104 ≤ (a0.size : Int)) = true := decide_eq_true c13
              clear c13
              simp only [Option.some.injEq, Prod.mk.injEq] at H
              obtain ⟨rfl, rfl, rfl, rfl⟩ := H
              have hcz14_0 : wc.cell? ⟨gb101, 0, none⟩ = some (.int .i64 0) := (blk_cell BK101.out 0).trans rfl
              have hcz14_1 : wc.cell? ⟨gb101, 1, none⟩ = some (.string (⟨#[]⟩ : ByteArray)) := (blk_cell BK101.out 1).trans rfl
              have hcz14_2 : wc.cell? ⟨gb101, 2, none⟩ = some (.int .i64 0) := (blk_cell BK101.out 2).trans rfl
              have hfz14_0 := blk_frozen BK101.out 0
              have hfz14_1 := blk_frozen BK101.out 1
              have hfz14_2 := blk_frozen BK101.out 2
              go_wp2
              refine bodyPost_ret (results_ct rfl _ _ gb101 44 #[.int .i64 0, .string (a0.extract 0 (t104 : Int).toNat), .int .i64 0] (0, 0) _ rfl (by (with_reducible repeat (first | refine blk_drewN ?_ _ | refine blk_drew ?_ | refine blk_alloc ?_ _)); refine blk_put (cs := #[.int .i64 0, .string (a0.extract 0 (t104 : Int).toNat), .int .i64 0]) ?_ 2 _ rfl; (with_reducible repeat (first | refine blk_drewN ?_ _ | refine blk_drew ?_ | refine blk_alloc ?_ _)); refine blk_put (cs := #[.int .i64 0, .string (⟨#[]⟩ : ByteArray), .int .i64 0]) ?_ 1 _ rfl; (with_reducible repeat (first | refine blk_drewN ?_ _ | refine blk_drew ?_ | refine blk_alloc ?_ _)); refine blk_put (cs := #[.int .i64 0, .string (⟨#[]⟩ : ByteArray), .int .i64 0]) ?_ 0 _ rfl; (with_reducible repeat (first | refine blk_drewN ?_ _ | refine blk_drew ?_ | refine blk_alloc ?_ _)); exact BK101.out) Tryd.underlying44 rfl (by kernel_rfl)) rfl ?_
              exact ⟨by first | rfl | (simp [errW_none, errW_some] <;> rfl) | (simp [*, errW_none, errW_some] <;> rfl), by repeat (first | (with_reducible first | exact HB.out | apply below_alloc | apply pw_below_drewN | apply below_drew1 | refine below_set ?_ GE101.out) | exact HB.out)⟩
            · rw [if_neg c13] at H
              exact absurd H (by simp)
          · rw [if_neg c12] at H
            exact absurd H (by simp)
        · replace c11 := Bool.eq_false_iff.mpr c11
          subst c11
          have H1 : (if t103 = true then (instarref08_one.j1 kj7 a0 t102 t103 t104 (decide (t104 ≤ 19))) else (instarref08_one.j1 kj7 a0 t102 t103 t104 false)) = some (r1, r2, r3, r4) := by rw [if_neg (show ¬ (false = true) by decide)] at H; exact H
          clear H
          have H := H1
          clear H1
          have HC15 := Aside0.mk H
          clear H
          go_upto_region 6 with (fail)
          go_cut [29] (fun v29 wc => ∃ (kq : Nat) (x29_14 : Bool), v29 = .bool x29_14 ∧ Aside0 (instarref08_one.j1 kq a0 t102 t103 t104 x29_14 = some (r1, r2, r3, r4)) ∧ Aside0 (kq ≤ kj7) ∧ Aside0 (wc.heap[gb101]? = some (.cells #[.int .i64 0, .string (⟨#[]⟩ : ByteArray), .int .i64 0] 44 (0, 0))) ∧ Aside0 (Below w.heap.size w wc))
          case first =>
            have H := HC15.out
            clear HC15
            by_cases c16 : t103 = true
            · subst c16
              have H1 : (instarref08_one.j1 kj7 a0 t102 true t104 (decide (t104 ≤ 19))) = some (r1, r2, r3, r4) := by rw [if_pos rfl] at H; exact H
              clear H
              have H := H1
              clear H1
              have H' := Aside0.mk H
              clear H
              go_wp2
              go_meet
              case rel => exact ⟨_, (decide (t104 ≤ 19)), (by first | rfl | (simp; done) | (simp [*]; done) | (simp [Go.Proofs.YtngeelpfbajppaaDoor.Bs.isEmpty_bne, Go.Proofs.YtngeelpfbajppaaDoor.Bs.isEmpty_beq]; done)), H', ⟨by have := HJ7.out; first | omega | exact Nat.le_refl _⟩, ⟨by (with_reducible repeat (first | refine blk_drewN ?_ _ | refine blk_drew ?_ | refine blk_alloc ?_ _)); exact BK101.out⟩, ⟨by repeat (first | (with_reducible first | exact HB.out | apply below_alloc | apply pw_below_drewN | apply below_drew1 | refine below_set ?_ GE101.out) | exact HB.out)⟩⟩
            · replace c16 := Bool.eq_false_iff.mpr c16
              subst c16
              have H1 : (instarref08_one.j1 kj7 a0 t102 false t104 false) = some (r1, r2, r3, r4) := by rw [if_neg (show ¬ (false = true) by decide)] at H; exact H
              clear H
              have H := H1
              clear H1
              have H' := Aside0.mk H
              clear H
              go_wp2
              go_meet
              case rel => exact ⟨_, (false), (by first | rfl | (simp; done) | (simp [*]; done) | (simp [Go.Proofs.YtngeelpfbajppaaDoor.Bs.isEmpty_bne, Go.Proofs.YtngeelpfbajppaaDoor.Bs.isEmpty_beq]; done)), H', ⟨by have := HJ7.out; first | omega | exact Nat.le_refl _⟩, ⟨by (with_reducible repeat (first | refine blk_drewN ?_ _ | refine blk_drew ?_ | refine blk_alloc ?_ _)); exact BK101.out⟩, ⟨by repeat (first | (with_reducible first | exact HB.out | apply below_alloc | apply pw_below_drewN | apply below_drew1 | refine below_set ?_ GE101.out) | exact HB.out)⟩⟩
          case rest =>
            clear HC15
            try clear c1
            try clear c2
            try clear c2b0
            try clear c2b1
            try clear p2
            try clear c3
            try clear p3
            try clear q3
            try clear hx3
            try clear qi3
            try clear p5
            try clear q5
            try clear hx5
            try clear qi5
            try clear c10
            try clear c11
            try clear c12
            try clear c12b0
            try clear c12b1
            try clear c13
            try clear c13b0
            try clear c13b1
            try clear c16
            try clear hcz14_0
            try clear hcz14_1
            try clear hcz14_2
            try clear hfz14_0
            try clear hfz14_1
            try clear hfz14_2
            try clear p2
            try clear p3
            try clear p5
            try clear q3
            try clear q5
            obtain ⟨kq, x29_14, rfl, HA, HJ14, BK101, HB⟩ := hcut
            cases kq with
            | zero => exact absurd HA.out (by simp [instarref08_one.j1])
            | succ kj14 =>
              have H := HA.out
              clear HA
              simp only [instarref08_one.j1] at H
              by_cases c17 : x29_14 = true
              · subst c17
                have H1 : (if 0 ≤ t104 then (if t104 ≤ (a0.size : Int) then (some (1, a0.extract 0 (t104 : Int).toNat, 0, t104)) else (none)) else (none)) = some (r1, r2, r3, r4) := by rw [if_pos rfl] at H; exact H
                clear H
                have H := H1
                clear H1
                by_cases c18 : 0 ≤ t104
                · rw [if_pos c18] at H
                  have c18b0 := eq_true c18
                  have c18b1 : decide (0 ≤ t104) = true := decide_eq_true c18
                  clear c18
                  by_cases c19 : t104 ≤ (a0.size : Int)
                  · rw [if_pos c19] at H
                    have c19b0 := eq_true c19
                    have c19b1 : decide (t104 ≤ (a0.size : Int)) = true := decide_eq_true c19
                    clear c19
                    simp only [Option.some.injEq, Prod.mk.injEq] at H
                    obtain ⟨rfl, rfl, rfl, rfl⟩ := H
                    have hcz20_0 : wc.cell? ⟨gb101, 0, none⟩ = some (.int .i64 0) := (blk_cell BK101.out 0).trans rfl
                    have hcz20_1 : wc.cell? ⟨gb101, 1, none⟩ = some (.string (⟨#[]⟩ : ByteArray)) := (blk_cell BK101.out 1).trans rfl
                    have hcz20_2 : wc.cell? ⟨gb101, 2, none⟩ = some (.int .i64 0) := (blk_cell BK101.out 2).trans rfl
                    have hfz20_0 := blk_frozen BK101.out 0
                    have hfz20_1 := blk_frozen BK101.out 1
                    have hfz20_2 := blk_frozen BK101.out 2
                    go_wp2
                    refine bodyPost_ret (results_ct rfl _ _ gb101 44 #[.int .i64 1, .string (a0.extract 0 (t104 : Int).toNat), .int .i64 0] (0, 0) _ rfl (by (with_reducible repeat (first | refine blk_drewN ?_ _ | refine blk_drew ?_ | refine blk_alloc ?_ _)); refine blk_put (cs := #[.int .i64 1, .string (a0.extract 0 (t104 : Int).toNat), .int .i64 0]) ?_ 2 _ rfl; (with_reducible repeat (first | refine blk_drewN ?_ _ | refine blk_drew ?_ | refine blk_alloc ?_ _)); refine blk_put (cs := #[.int .i64 1, .string (⟨#[]⟩ : ByteArray), .int .i64 0]) ?_ 1 _ rfl; (with_reducible repeat (first | refine blk_drewN ?_ _ | refine blk_drew ?_ | refine blk_alloc ?_ _)); refine blk_put (cs := #[.int .i64 0, .string (⟨#[]⟩ : ByteArray), .int .i64 0]) ?_ 0 _ rfl; (with_reducible repeat (first | refine blk_drewN ?_ _ | refine blk_drew ?_ | refine blk_alloc ?_ _)); exact BK101.out) Tryd.underlying44 rfl (by kernel_rfl)) rfl ?_
                    exact ⟨by first | rfl | (simp [errW_none, errW_some] <;> rfl) | (simp [*, errW_none, errW_some] <;> rfl), by repeat (first | (with_reducible first | exact HB.out | apply below_alloc | apply pw_below_drewN | apply below_drew1 | refine below_set ?_ GE101.out) | exact HB.out)⟩
                  · rw [if_neg c19] at H
                    exact absurd H (by simp)
                · rw [if_neg c18] at H
                  exact absurd H (by simp)
              · replace c17 := Bool.eq_false_iff.mpr c17
                subst c17
                have H1 : (if t102 = true then (instarref08_one.j2 kj14 a0 true) else (instarref08_one.j2 kj14 a0 t103)) = some (r1, r2, r3, r4) := by rw [if_neg (show ¬ (false = true) by decide)] at H; exact H
                clear H
                have H := H1
                clear H1
                have HC21 := Aside0.mk H
                clear H
                go_upto_region 8 with (fail)
                go_cut [40] (fun v40 wc => ∃ (kq : Nat) (x40_20 : Bool), v40 = .bool x40_20 ∧ Aside0 (instarref08_one.j2 kq a0 x40_20 = some (r1, r2, r3, r4)) ∧ Aside0 (kq ≤ kj14) ∧ Aside0 (wc.heap[gb101]? = some (.cells #[.int .i64 0, .string (⟨#[]⟩ : ByteArray), .int .i64 0] 44 (0, 0))) ∧ Aside0 (Below w.heap.size w wc))
                case first =>
                  have H := HC21.out
                  clear HC21
                  by_cases c22 : t102 = true
                  · subst c22
                    have H1 : (instarref08_one.j2 kj14 a0 true) = some (r1, r2, r3, r4) := by rw [if_pos rfl] at H; exact H
                    clear H
                    have H := H1
                    clear H1
                    have H' := Aside0.mk H
                    clear H
                    go_wp2
                    go_meet
                    case rel => exact ⟨_, (true), (by first | rfl | (simp; done) | (simp [*]; done) | (simp [Go.Proofs.YtngeelpfbajppaaDoor.Bs.isEmpty_bne, Go.Proofs.YtngeelpfbajppaaDoor.Bs.isEmpty_beq]; done)), H', ⟨by have := HJ7.out; have := HJ14.out; first | omega | exact Nat.le_refl _⟩, ⟨by (with_reducible repeat (first | refine blk_drewN ?_ _ | refine blk_drew ?_ | refine blk_alloc ?_ _)); exact BK101.out⟩, ⟨by repeat (first | (with_reducible first | exact HB.out | apply below_alloc | apply pw_below_drewN | apply below_drew1 | refine below_set ?_ GE101.out) | exact HB.out)⟩⟩
                  · replace c22 := Bool.eq_false_iff.mpr c22
                    subst c22
                    have H1 : (instarref08_one.j2 kj14 a0 t103) = some (r1, r2, r3, r4) := by rw [if_neg (show ¬ (false = true) by decide)] at H; exact H
                    clear H
                    have H := H1
                    clear H1
                    have H' := Aside0.mk H
                    clear H
                    go_wp2
                    go_meet
                    case rel => exact ⟨_, (t103), (by first | rfl | (simp; done) | (simp [*]; done) | (simp [Go.Proofs.YtngeelpfbajppaaDoor.Bs.isEmpty_bne, Go.Proofs.YtngeelpfbajppaaDoor.Bs.isEmpty_beq]; done)), H', ⟨by have := HJ7.out; have := HJ14.out; first | omega | exact Nat.le_refl _⟩, ⟨by (with_reducible repeat (first | refine blk_drewN ?_ _ | refine blk_drew ?_ | refine blk_alloc ?_ _)); exact BK101.out⟩, ⟨by repeat (first | (with_reducible first | exact HB.out | apply below_alloc | apply pw_below_drewN | apply below_drew1 | refine below_set ?_ GE101.out) | exact HB.out)⟩⟩
                case rest =>
                  clear HC21
                  try clear c1
                  try clear c2
                  try clear c2b0
                  try clear c2b1
                  try clear p2
                  try clear c3
                  try clear p3
                  try clear q3
                  try clear hx3
                  try clear qi3
                  try clear p5
                  try clear q5
                  try clear hx5
                  try clear qi5
                  try clear c10
                  try clear c11
                  try clear c12
                  try clear c12b0
                  try clear c12b1
                  try clear c13
                  try clear c13b0
                  try clear c13b1
                  try clear c16
                  try clear c17
                  try clear c18
                  try clear c18b0
                  try clear c18b1
                  try clear c19
                  try clear c19b0
                  try clear c19b1
                  try clear c22
                  try clear hcz14_0
                  try clear hcz14_1
                  try clear hcz14_2
                  try clear hcz20_0
                  try clear hcz20_1
                  try clear hcz20_2
                  try clear hfz14_0
                  try clear hfz14_1
                  try clear hfz14_2
                  try clear hfz20_0
                  try clear hfz20_1
                  try clear hfz20_2
                  try clear p2
                  try clear p3
                  try clear p5
                  try clear q3
                  try clear q5
                  obtain ⟨kq, x40_20, rfl, HA, HJ20, BK101, HB⟩ := hcut
                  cases kq with
                  | zero => exact absurd HA.out (by simp [instarref08_one.j2])
                  | succ kj20 =>
                    have H := HA.out
                    clear HA
                    simp only [instarref08_one.j2] at H
                    by_cases c23 : x40_20 = true
                    · subst c23
                      have H1 : (some (0, (⟨#[]⟩ : ByteArray), 0, 0)) = some (r1, r2, r3, r4) := by rw [if_pos rfl] at H; exact H
                      clear H
                      have H := H1
                      clear H1
                      simp only [Option.some.injEq, Prod.mk.injEq] at H
                      obtain ⟨rfl, rfl, rfl, rfl⟩ := H
                      have hcz24_0 : wc.cell? ⟨gb101, 0, none⟩ = some (.int .i64 0) := (blk_cell BK101.out 0).trans rfl
                      have hcz24_1 : wc.cell? ⟨gb101, 1, none⟩ = some (.string (⟨#[]⟩ : ByteArray)) := (blk_cell BK101.out 1).trans rfl
                      have hcz24_2 : wc.cell? ⟨gb101, 2, none⟩ = some (.int .i64 0) := (blk_cell BK101.out 2).trans rfl
                      have hfz24_0 := blk_frozen BK101.out 0
                      have hfz24_1 := blk_frozen BK101.out 1
                      have hfz24_2 := blk_frozen BK101.out 2
                      go_wp2
                      refine bodyPost_ret (results_ct rfl _ _ gb101 44 #[.int .i64 0, .string (⟨#[]⟩ : ByteArray), .int .i64 0] (0, 0) _ rfl (by (with_reducible repeat (first | refine blk_drewN ?_ _ | refine blk_drew ?_ | refine blk_alloc ?_ _)); refine blk_put (cs := #[.int .i64 0, .string (⟨#[]⟩ : ByteArray), .int .i64 0]) ?_ 2 _ rfl; (with_reducible repeat (first | refine blk_drewN ?_ _ | refine blk_drew ?_ | refine blk_alloc ?_ _)); refine blk_put (cs := #[.int .i64 0, .string (⟨#[]⟩ : ByteArray), .int .i64 0]) ?_ 1 _ rfl; (with_reducible repeat (first | refine blk_drewN ?_ _ | refine blk_drew ?_ | refine blk_alloc ?_ _)); refine blk_put (cs := #[.int .i64 0, .string (⟨#[]⟩ : ByteArray), .int .i64 0]) ?_ 0 _ rfl; (with_reducible repeat (first | refine blk_drewN ?_ _ | refine blk_drew ?_ | refine blk_alloc ?_ _)); exact BK101.out) Tryd.underlying44 rfl (by kernel_rfl)) rfl ?_
                      exact ⟨by first | rfl | (simp [errW_none, errW_some] <;> rfl) | (simp [*, errW_none, errW_some] <;> rfl), by repeat (first | (with_reducible first | exact HB.out | apply below_alloc | apply pw_below_drewN | apply below_drew1 | refine below_set ?_ GE101.out) | exact HB.out)⟩
                    · replace c23 := Bool.eq_false_iff.mpr c23
                      subst c23
                      have H1 : (if 0 < (a0.size : Int) then (if (bt a0 0) = 39 then ((instarref08_quote.f kj20 a0).bind fun bt105 => (if (bt105.1.size : Int) > 200 then (some (0, (⟨#[]⟩ : ByteArray), 0, 0)) else (some (2, bt105.1, 0, bt105.2)))) else (if (a0.size : Int) > 1 then (if 0 ≤ 2 then (if 2 ≤ (a0.size : Int) then (if (a0.extract 0 2).toList = ([60, 61] : List UInt8) then (instarref08_one.j3 kj20 a0 true) else (if (a0.extract 0 2).toList = ([62, 61] : List UInt8) then (instarref08_one.j3 kj20 a0 true) else (instarref08_one.j3 kj20 a0 ((a0.extract 0 2).toList == ([60, 62] : List UInt8))))) else (none)) else (none)) else (instarref08_one.j3 kj20 a0 false))) else (none)) = some (r1, r2, r3, r4) := by rw [if_neg (show ¬ (false = true) by decide)] at H; exact H
                      clear H
                      have H := H1
                      clear H1
                      by_cases c25 : 0 < (a0.size : Int)
                      · rw [if_pos c25] at H
                        have c25b0 : decide (0 < (a0.size : Int)) = true := decide_eq_true c25
                        have c25b1 : decide (0 < a0.size) = true := decide_eq_true (by omega)
                        clear c25
                        by_cases c27 : (bt a0 0) = 39
                        · rw [if_pos c27] at H
                          have c27b0 : ((bt a0 0) == 39) = true := beq_iff_eq.mpr c27
                          have c27b1 : ((bt a0 0) != 39) = false := bne_eq_false_iff_eq.mpr c27
                          clear c27
                          replace H := Option.bind_eq_some_iff.mp H
                          obtain ⟨⟨t105, t106⟩, A280, H⟩ := H
                          replace H : (if (t105.size : Int) > 200 then (some (0, (⟨#[]⟩ : ByteArray), 0, 0)) else (some (2, t105, 0, t106))) = some (r1, r2, r3, r4) := H
                          have A28 := Aside0.mk A280
                          clear A280
                          by_cases c29 : (t105.size : Int) > 200
                          · rw [if_pos c29] at H
                            have c29b0 : decide (200 < (t105.size : Int)) = true := decide_eq_true c29
                            have c29b1 : decide (200 < t105.size) = true := decide_eq_true (by omega)
                            clear c29
                            simp only [Option.some.injEq, Prod.mk.injEq] at H
                            obtain ⟨rfl, rfl, rfl, rfl⟩ := H
                            have p26 : 0 ≤ (0 : Int) := (by omega)
                            have q26 : 0 < a0.size := (by have : (0 : Int) < (a0.size : Int) := of_decide_eq_true (by first | (with_reducible assumption) | assumption); omega)
                            have hx26 : ∀ h : 0 < a0.size, ((a0[0]'h).toNat : Int) = bt a0 0 := bt_at a0 0
                            clear p26
                            have qi26 : (0 < (a0.size : Int)) = True := eq_true (of_decide_eq_true (by first | (with_reducible assumption) | assumption))
                            replace q26 := eq_true q26
                            go_wp2_with (first | ((with_reducible refine gate_callee (f := 40) rfl ?_); refine goesL_ (some 52) rfl rfl Tryd.func40 (by kernel_rfl) rfl #[.string a0] rfl (by (try simp only [List.map_toArray, List.map_cons, List.map_nil]); first | done | rfl | (simp only [List.length_drop, List.length_take]; rfl)) ?_; (with_reducible refine (instarref08_quote.calls kj20 a0 t105 t106 _ A28.out).mono ?_); rintro e w' ⟨rfl, ⟨nd, rfl⟩⟩; refine ⟨_, rfl, ?_⟩; (try (rw [drewN_self wc]; generalize hq_ : World.drewN wc _ = wc; have n0_ : Aside0 (wc.heap[gb101]? = some (.cells #[.int .i64 0, .string (⟨#[]⟩ : ByteArray), .int .i64 0] 44 (0, 0))) := ⟨by rw [← hq_]; exact (by (with_reducible repeat (first | refine blk_drewN ?_ _ | refine blk_drew ?_ | refine blk_alloc ?_ _)); exact BK101.out)⟩; have n1_ : Aside0 (Below w.heap.size w wc) := ⟨by rw [← hq_]; exact (by repeat (first | (with_reducible first | exact HB.out | apply below_alloc | apply pw_below_drewN | apply below_drew1 | refine below_set ?_ GE101.out) | exact HB.out))⟩; clear BK101 HB hq_; have BK101 := n0_; have HB := n1_; clear n0_ n1_)); have hcz30_0 : wc.cell? ⟨gb101, 0, none⟩ = some (.int .i64 0) := (blk_cell BK101.out 0).trans rfl; have hcz30_1 : wc.cell? ⟨gb101, 1, none⟩ = some (.string (⟨#[]⟩ : ByteArray)) := (blk_cell BK101.out 1).trans rfl; have hcz30_2 : wc.cell? ⟨gb101, 2, none⟩ = some (.int .i64 0) := (blk_cell BK101.out 2).trans rfl; have hfz30_0 := blk_frozen BK101.out 0; have hfz30_1 := blk_frozen BK101.out 1; have hfz30_2 := blk_frozen BK101.out 2))
                            refine bodyPost_ret (results_ct rfl _ _ gb101 44 #[.int .i64 0, .string (⟨#[]⟩ : ByteArray), .int .i64 0] (0, 0) _ rfl (by (with_reducible repeat (first | refine blk_drewN ?_ _ | refine blk_drew ?_ | refine blk_alloc ?_ _)); refine blk_put (cs := #[.int .i64 0, .string (⟨#[]⟩ : ByteArray), .int .i64 0]) ?_ 2 _ rfl; (with_reducible repeat (first | refine blk_drewN ?_ _ | refine blk_drew ?_ | refine blk_alloc ?_ _)); refine blk_put (cs := #[.int .i64 0, .string (⟨#[]⟩ : ByteArray), .int .i64 0]) ?_ 1 _ rfl; (with_reducible repeat (first | refine blk_drewN ?_ _ | refine blk_drew ?_ | refine blk_alloc ?_ _)); refine blk_put (cs := #[.int .i64 0, .string (⟨#[]⟩ : ByteArray), .int .i64 0]) ?_ 0 _ rfl; (with_reducible repeat (first | refine blk_drewN ?_ _ | refine blk_drew ?_ | refine blk_alloc ?_ _)); exact BK101.out) Tryd.underlying44 rfl (by kernel_rfl)) rfl ?_
                            exact ⟨by first | rfl | (simp [errW_none, errW_some] <;> rfl) | (simp [*, errW_none, errW_some] <;> rfl), by repeat (first | (with_reducible first | exact HB.out | apply below_alloc | apply pw_below_drewN | apply below_drew1 | refine below_set ?_ GE101.out) | exact HB.out)⟩
                          · rw [if_neg c29] at H
                            have c29b0 : decide (200 < (t105.size : Int)) = false := decide_eq_false c29
                            have c29b1 : decide (200 < t105.size) = false := decide_eq_false (by omega)
                            clear c29
                            simp only [Option.some.injEq, Prod.mk.injEq] at H
                            obtain ⟨rfl, rfl, rfl, rfl⟩ := H
                            have p26 : 0 ≤ (0 : Int) := (by omega)
                            have q26 : 0 < a0.size := (by have : (0 : Int) < (a0.size : Int) := of_decide_eq_true (by first | (with_reducible assumption) | assumption); omega)
                            have hx26 : ∀ h : 0 < a0.size, ((a0[0]'h).toNat : Int) = bt a0 0 := bt_at a0 0
                            clear p26
                            have qi26 : (0 < (a0.size : Int)) = True := eq_true (of_decide_eq_true (by first | (with_reducible assumption) | assumption))
                            replace q26 := eq_true q26
                            go_wp2_with (first | ((with_reducible refine gate_callee (f := 40) rfl ?_); refine goesL_ (some 52) rfl rfl Tryd.func40 (by kernel_rfl) rfl #[.string a0] rfl (by (try simp only [List.map_toArray, List.map_cons, List.map_nil]); first | done | rfl | (simp only [List.length_drop, List.length_take]; rfl)) ?_; (with_reducible refine (instarref08_quote.calls kj20 a0 t105 t106 _ A28.out).mono ?_); rintro e w' ⟨rfl, ⟨nd, rfl⟩⟩; refine ⟨_, rfl, ?_⟩; (try (rw [drewN_self wc]; generalize hq_ : World.drewN wc _ = wc; have n0_ : Aside0 (wc.heap[gb101]? = some (.cells #[.int .i64 0, .string (⟨#[]⟩ : ByteArray), .int .i64 0] 44 (0, 0))) := ⟨by rw [← hq_]; exact (by (with_reducible repeat (first | refine blk_drewN ?_ _ | refine blk_drew ?_ | refine blk_alloc ?_ _)); exact BK101.out)⟩; have n1_ : Aside0 (Below w.heap.size w wc) := ⟨by rw [← hq_]; exact (by repeat (first | (with_reducible first | exact HB.out | apply below_alloc | apply pw_below_drewN | apply below_drew1 | refine below_set ?_ GE101.out) | exact HB.out))⟩; clear BK101 HB hq_; have BK101 := n0_; have HB := n1_; clear n0_ n1_)); have hcz31_0 : wc.cell? ⟨gb101, 0, none⟩ = some (.int .i64 0) := (blk_cell BK101.out 0).trans rfl; have hcz31_1 : wc.cell? ⟨gb101, 1, none⟩ = some (.string (⟨#[]⟩ : ByteArray)) := (blk_cell BK101.out 1).trans rfl; have hcz31_2 : wc.cell? ⟨gb101, 2, none⟩ = some (.int .i64 0) := (blk_cell BK101.out 2).trans rfl; have hfz31_0 := blk_frozen BK101.out 0; have hfz31_1 := blk_frozen BK101.out 1; have hfz31_2 := blk_frozen BK101.out 2))
                            refine bodyPost_ret (results_ct rfl _ _ gb101 44 #[.int .i64 2, .string t105, .int .i64 0] (0, 0) _ rfl (by (with_reducible repeat (first | refine blk_drewN ?_ _ | refine blk_drew ?_ | refine blk_alloc ?_ _)); refine blk_put (cs := #[.int .i64 2, .string t105, .int .i64 0]) ?_ 2 _ rfl; (with_reducible repeat (first | refine blk_drewN ?_ _ | refine blk_drew ?_ | refine blk_alloc ?_ _)); refine blk_put (cs := #[.int .i64 2, .string (⟨#[]⟩ : ByteArray), .int .i64 0]) ?_ 1 _ rfl; (with_reducible repeat (first | refine blk_drewN ?_ _ | refine blk_drew ?_ | refine blk_alloc ?_ _)); refine blk_put (cs := #[.int .i64 0, .string (⟨#[]⟩ : ByteArray), .int .i64 0]) ?_ 0 _ rfl; (with_reducible repeat (first | refine blk_drewN ?_ _ | refine blk_drew ?_ | refine blk_alloc ?_ _)); exact BK101.out) Tryd.underlying44 rfl (by kernel_rfl)) rfl ?_
                            exact ⟨by first | rfl | (simp [errW_none, errW_some] <;> rfl) | (simp [*, errW_none, errW_some] <;> rfl), by repeat (first | (with_reducible first | exact HB.out | apply below_alloc | apply pw_below_drewN | apply below_drew1 | refine below_set ?_ GE101.out) | exact HB.out)⟩
                        · rw [if_neg c27] at H
                          have c27b0 : ((bt a0 0) == 39) = false := beq_eq_false_iff_ne.mpr c27
                          have c27b1 : ((bt a0 0) != 39) = true := bne_iff_ne.mpr c27
                          have HC32 := Aside0.mk H
                          clear H
                          have p26 : 0 ≤ (0 : Int) := (by omega)
                          have q26 : 0 < a0.size := (by have : (0 : Int) < (a0.size : Int) := of_decide_eq_true (by first | (with_reducible assumption) | assumption); omega)
                          have hx26 : ∀ h : 0 < a0.size, ((a0[0]'h).toNat : Int) = bt a0 0 := bt_at a0 0
                          clear p26
                          have qi26 : (0 < (a0.size : Int)) = True := eq_true (of_decide_eq_true (by first | (with_reducible assumption) | assumption))
                          replace q26 := eq_true q26
                          go_upto_region 15 with (fail)
                          go_cut [79] (fun v79 wc => ∃ (kq : Nat) (x79_31 : Bool), v79 = .bool x79_31 ∧ Aside0 (instarref08_one.j3 kq a0 x79_31 = some (r1, r2, r3, r4)) ∧ Aside0 (kq ≤ kj20) ∧ Aside0 (wc.heap[gb101]? = some (.cells #[.int .i64 0, .string (⟨#[]⟩ : ByteArray), .int .i64 0] 44 (0, 0))) ∧ Aside0 (Below w.heap.size w wc))
                          case first =>
                            have H := HC32.out
                            clear HC32
                            by_cases c33 : (a0.size : Int) > 1
                            · rw [if_pos c33] at H
                              have c33b0 : decide (1 < (a0.size : Int)) = true := decide_eq_true c33
                              have c33b1 : decide (1 < a0.size) = true := decide_eq_true (by omega)
                              clear c33
                              (first | rw [c33b0] | (simp only [i64_w, i32_w]; rw [c33b0]) | skip)
                              by_cases c34 : 0 ≤ 2
                              · rw [if_pos c34] at H
                                have c34b0 := eq_true c34
                                have c34b1 : decide (0 ≤ 2) = true := decide_eq_true c34
                                clear c34
                                by_cases c35 : 2 ≤ (a0.size : Int)
                                · rw [if_pos c35] at H
                                  have c35b0 := eq_true c35
                                  have c35b1 : decide (2 ≤ (a0.size : Int)) = true := decide_eq_true c35
                                  clear c35
                                  by_cases c36 : (a0.extract 0 2).toList = ([60, 61] : List UInt8)
                                  · rw [if_pos c36] at H
                                    have c36b0 : ((a0.extract 0 2).toList == ([60, 61] : List UInt8)) = true := beq_iff_eq.mpr c36
                                    have c36b1 : ((a0.extract 0 2).toList != ([60, 61] : List UInt8)) = false := bne_eq_false_iff_eq.mpr c36
                                    clear c36
                                    have H' := Aside0.mk H
                                    clear H
                                    go_wp2
                                    go_meet
                                    case rel => exact ⟨_, (true), (by first | rfl | (simp; done) | (simp [*]; done) | (simp [Go.Proofs.YtngeelpfbajppaaDoor.Bs.isEmpty_bne, Go.Proofs.YtngeelpfbajppaaDoor.Bs.isEmpty_beq]; done)), H', ⟨by have := HJ7.out; have := HJ14.out; have := HJ20.out; first | omega | exact Nat.le_refl _⟩, ⟨by (with_reducible repeat (first | refine blk_drewN ?_ _ | refine blk_drew ?_ | refine blk_alloc ?_ _)); exact BK101.out⟩, ⟨by repeat (first | (with_reducible first | exact HB.out | apply below_alloc | apply pw_below_drewN | apply below_drew1 | refine below_set ?_ GE101.out) | exact HB.out)⟩⟩
                                  · rw [if_neg c36] at H
                                    have c36b0 : ((a0.extract 0 2).toList == ([60, 61] : List UInt8)) = false := beq_eq_false_iff_ne.mpr c36
                                    have c36b1 : ((a0.extract 0 2).toList != ([60, 61] : List UInt8)) = true := bne_iff_ne.mpr c36
                                    have c37b0 := eq_true (of_decide_eq_true (by first | (with_reducible assumption) | assumption) : 0 ≤ 2)
                                    have c38b0 := eq_true (of_decide_eq_true (by first | (with_reducible assumption) | assumption) : 2 ≤ (a0.size : Int))
                                    by_cases c39 : (a0.extract 0 2).toList = ([62, 61] : List UInt8)
                                    · rw [if_pos c39] at H
                                      have c39b0 : ((a0.extract 0 2).toList == ([62, 61] : List UInt8)) = true := beq_iff_eq.mpr c39
                                      have c39b1 : ((a0.extract 0 2).toList != ([62, 61] : List UInt8)) = false := bne_eq_false_iff_eq.mpr c39
                                      clear c39
                                      have H' := Aside0.mk H
                                      clear H
                                      go_wp2
                                      go_meet
                                      case rel => exact ⟨_, (true), (by first | rfl | (simp; done) | (simp [*]; done) | (simp [Go.Proofs.YtngeelpfbajppaaDoor.Bs.isEmpty_bne, Go.Proofs.YtngeelpfbajppaaDoor.Bs.isEmpty_beq]; done)), H', ⟨by have := HJ7.out; have := HJ14.out; have := HJ20.out; first | omega | exact Nat.le_refl _⟩, ⟨by (with_reducible repeat (first | refine blk_drewN ?_ _ | refine blk_drew ?_ | refine blk_alloc ?_ _)); exact BK101.out⟩, ⟨by repeat (first | (with_reducible first | exact HB.out | apply below_alloc | apply pw_below_drewN | apply below_drew1 | refine below_set ?_ GE101.out) | exact HB.out)⟩⟩
                                    · rw [if_neg c39] at H
                                      have c39b0 : ((a0.extract 0 2).toList == ([62, 61] : List UInt8)) = false := beq_eq_false_iff_ne.mpr c39
                                      have c39b1 : ((a0.extract 0 2).toList != ([62, 61] : List UInt8)) = true := bne_iff_ne.mpr c39
                                      have c40b0 := eq_true (of_decide_eq_true (by first | (with_reducible assumption) | assumption) : 0 ≤ 2)
                                      have c41b0 := eq_true (of_decide_eq_true (by first | (with_reducible assumption) | assumption) : 2 ≤ (a0.size : Int))
                                      have H' := Aside0.mk H
                                      clear H
                                      go_wp2
                                      go_meet
                                      case rel => exact ⟨_, (((a0.extract 0 2).toList == ([60, 62] : List UInt8))), (by first | rfl | (simp; done) | (simp [*]; done) | (simp [Go.Proofs.YtngeelpfbajppaaDoor.Bs.isEmpty_bne, Go.Proofs.YtngeelpfbajppaaDoor.Bs.isEmpty_beq]; done)), H', ⟨by have := HJ7.out; have := HJ14.out; have := HJ20.out; first | omega | exact Nat.le_refl _⟩, ⟨by (with_reducible repeat (first | refine blk_drewN ?_ _ | refine blk_drew ?_ | refine blk_alloc ?_ _)); exact BK101.out⟩, ⟨by repeat (first | (with_reducible first | exact HB.out | apply below_alloc | apply pw_below_drewN | apply below_drew1 | refine below_set ?_ GE101.out) | exact HB.out)⟩⟩
                                · rw [if_neg c35] at H
                                  exact absurd H (by simp)
                              · rw [if_neg c34] at H
                                exact absurd H (by simp)
                            · rw [if_neg c33] at H
                              have c33b0 : decide (1 < (a0.size : Int)) = false := decide_eq_false c33
                              have c33b1 : decide (1 < a0.size) = false := decide_eq_false (by omega)
                              clear c33
                              (first | rw [c33b0] | (simp only [i64_w, i32_w]; rw [c33b0]) | skip)
                              have H' := Aside0.mk H
                              clear H
                              go_wp2
                              go_meet
                              case rel => exact ⟨_, (false), (by first | rfl | (simp; done) | (simp [*]; done) | (simp [Go.Proofs.YtngeelpfbajppaaDoor.Bs.isEmpty_bne, Go.Proofs.YtngeelpfbajppaaDoor.Bs.isEmpty_beq]; done)), H', ⟨by have := HJ7.out; have := HJ14.out; have := HJ20.out; first | omega | exact Nat.le_refl _⟩, ⟨by (with_reducible repeat (first | refine blk_drewN ?_ _ | refine blk_drew ?_ | refine blk_alloc ?_ _)); exact BK101.out⟩, ⟨by repeat (first | (with_reducible first | exact HB.out | apply below_alloc | apply pw_below_drewN | apply below_drew1 | refine below_set ?_ GE101.out) | exact HB.out)⟩⟩
                          case rest =>
                            clear HC32
                            try clear c1
                            try clear c2
                            try clear c2b0
                            try clear c2b1
                            try clear p2
                            try clear q2
                            try clear hx2
                            try clear qi2
                            try clear c3
                            try clear p3
                            try clear q3
                            try clear hx3
                            try clear qi3
                            try clear c4
                            try clear p5
                            try clear q5
                            try clear hx5
                            try clear qi5
                            try clear c10
                            try clear c11
                            try clear c12
                            try clear c12b0
                            try clear c12b1
                            try clear c13
                            try clear c13b0
                            try clear c13b1
                            try clear c16
                            try clear c17
                            try clear c18
                            try clear c18b0
                            try clear c18b1
                            try clear c19
                            try clear c19b0
                            try clear c19b1
                            try clear c22
                            try clear c23
                            try clear c25
                            try clear c25b0
                            try clear c25b1
                            try clear p26
                            try clear q26
                            try clear hx26
                            try clear qi26
                            try clear c27
                            try clear c27b0
                            try clear c27b1
                            try clear c29
                            try clear c29b0
                            try clear c29b1
                            try clear c33
                            try clear c33b0
                            try clear c33b1
                            try clear c34
                            try clear c34b0
                            try clear c34b1
                            try clear c35
                            try clear c35b0
                            try clear c35b1
                            try clear c36
                            try clear c36b0
                            try clear c36b1
                            try clear c37
                            try clear c37b0
                            try clear c38
                            try clear c38b0
                            try clear c39
                            try clear c39b0
                            try clear c39b1
                            try clear c40
                            try clear c40b0
                            try clear c41
                            try clear c41b0
                            try clear hcz14_0
                            try clear hcz14_1
                            try clear hcz14_2
                            try clear hcz20_0
                            try clear hcz20_1
                            try clear hcz20_2
                            try clear hcz24_0
                            try clear hcz24_1
                            try clear hcz24_2
                            try clear hcz30_0
                            try clear hcz30_1
                            try clear hcz30_2
                            try clear hcz31_0
                            try clear hcz31_1
                            try clear hcz31_2
                            try clear hfz14_0
                            try clear hfz14_1
                            try clear hfz14_2
                            try clear hfz20_0
                            try clear hfz20_1
                            try clear hfz20_2
                            try clear hfz24_0
                            try clear hfz24_1
                            try clear hfz24_2
                            try clear hfz30_0
                            try clear hfz30_1
                            try clear hfz30_2
                            try clear hfz31_0
                            try clear hfz31_1
                            try clear hfz31_2
                            try clear p2
                            try clear p26
                            try clear p3
                            try clear p5
                            try clear q26
                            try clear q3
                            try clear q5
                            obtain ⟨kq, x79_31, rfl, HA, HJ31, BK101, HB⟩ := hcut
                            cases kq with
                            | zero => exact absurd HA.out (by simp [instarref08_one.j3])
                            | succ kj31 =>
                              have H := HA.out
                              clear HA
                              simp only [instarref08_one.j3] at H
                              by_cases c42 : x79_31 = true
                              · subst c42
                                have H1 : (if 0 ≤ 2 then (if 2 ≤ (a0.size : Int) then (some (3, a0.extract 0 2, 0, 2)) else (none)) else (none)) = some (r1, r2, r3, r4) := by rw [if_pos rfl] at H; exact H
                                clear H
                                have H := H1
                                clear H1
                                by_cases c43 : 0 ≤ 2
                                · rw [if_pos c43] at H
                                  have c43b0 := eq_true c43
                                  have c43b1 : decide (0 ≤ 2) = true := decide_eq_true c43
                                  clear c43
                                  by_cases c44 : 2 ≤ (a0.size : Int)
                                  · rw [if_pos c44] at H
                                    have c44b0 := eq_true c44
                                    have c44b1 : decide (2 ≤ (a0.size : Int)) = true := decide_eq_true c44
                                    clear c44
                                    simp only [Option.some.injEq, Prod.mk.injEq] at H
                                    obtain ⟨rfl, rfl, rfl, rfl⟩ := H
                                    have hcz45_0 : wc.cell? ⟨gb101, 0, none⟩ = some (.int .i64 0) := (blk_cell BK101.out 0).trans rfl
                                    have hcz45_1 : wc.cell? ⟨gb101, 1, none⟩ = some (.string (⟨#[]⟩ : ByteArray)) := (blk_cell BK101.out 1).trans rfl
                                    have hcz45_2 : wc.cell? ⟨gb101, 2, none⟩ = some (.int .i64 0) := (blk_cell BK101.out 2).trans rfl
                                    have hfz45_0 := blk_frozen BK101.out 0
                                    have hfz45_1 := blk_frozen BK101.out 1
                                    have hfz45_2 := blk_frozen BK101.out 2
                                    go_wp2
                                    refine bodyPost_ret (results_ct rfl _ _ gb101 44 #[.int .i64 3, .string (a0.extract 0 2), .int .i64 0] (0, 0) _ rfl (by (with_reducible repeat (first | refine blk_drewN ?_ _ | refine blk_drew ?_ | refine blk_alloc ?_ _)); refine blk_put (cs := #[.int .i64 3, .string (a0.extract 0 2), .int .i64 0]) ?_ 2 _ rfl; (with_reducible repeat (first | refine blk_drewN ?_ _ | refine blk_drew ?_ | refine blk_alloc ?_ _)); refine blk_put (cs := #[.int .i64 3, .string (⟨#[]⟩ : ByteArray), .int .i64 0]) ?_ 1 _ rfl; (with_reducible repeat (first | refine blk_drewN ?_ _ | refine blk_drew ?_ | refine blk_alloc ?_ _)); refine blk_put (cs := #[.int .i64 0, .string (⟨#[]⟩ : ByteArray), .int .i64 0]) ?_ 0 _ rfl; (with_reducible repeat (first | refine blk_drewN ?_ _ | refine blk_drew ?_ | refine blk_alloc ?_ _)); exact BK101.out) Tryd.underlying44 rfl (by kernel_rfl)) rfl ?_
                                    exact ⟨by first | rfl | (simp [errW_none, errW_some] <;> rfl) | (simp [*, errW_none, errW_some] <;> rfl), by repeat (first | (with_reducible first | exact HB.out | apply below_alloc | apply pw_below_drewN | apply below_drew1 | refine below_set ?_ GE101.out) | exact HB.out)⟩
                                  · rw [if_neg c44] at H
                                    exact absurd H (by simp)
                                · rw [if_neg c43] at H
                                  exact absurd H (by simp)
                              · replace c42 := Bool.eq_false_iff.mpr c42
                                subst c42
                                have H1 : (if 0 < (a0.size : Int) then (if (bt a0 0) = 40 then (if 0 ≤ 1 then (if 1 ≤ (a0.size : Int) then (some (3, a0.extract 0 1, 0, 1)) else (none)) else (none)) else (if (bt a0 0) = 41 then (if 0 ≤ 1 then (if 1 ≤ (a0.size : Int) then (some (3, a0.extract 0 1, 0, 1)) else (none)) else (none)) else (if (bt a0 0) = 44 then (if 0 ≤ 1 then (if 1 ≤ (a0.size : Int) then (some (3, a0.extract 0 1, 0, 1)) else (none)) else (none)) else (if (bt a0 0) = 61 then (if 0 ≤ 1 then (if 1 ≤ (a0.size : Int) then (some (3, a0.extract 0 1, 0, 1)) else (none)) else (none)) else (if (bt a0 0) = 60 then (if 0 ≤ 1 then (if 1 ≤ (a0.size : Int) then (some (3, a0.extract 0 1, 0, 1)) else (none)) else (none)) else (if (bt a0 0) = 62 then (if 0 ≤ 1 then (if 1 ≤ (a0.size : Int) then (some (3, a0.extract 0 1, 0, 1)) else (none)) else (none)) else (if (bt a0 0) = 43 then (if 0 ≤ 1 then (if 1 ≤ (a0.size : Int) then (some (3, a0.extract 0 1, 0, 1)) else (none)) else (none)) else (if (bt a0 0) = 45 then (if 0 ≤ 1 then (if 1 ≤ (a0.size : Int) then (some (3, a0.extract 0 1, 0, 1)) else (none)) else (none)) else (if (bt a0 0) = 42 then (if 0 ≤ 1 then (if 1 ≤ (a0.size : Int) then (some (3, a0.extract 0 1, 0, 1)) else (none)) else (none)) else (some (0, (⟨#[]⟩ : ByteArray), 0, 0))))))))))) else (none)) = some (r1, r2, r3, r4) := by rw [if_neg (show ¬ (false = true) by decide)] at H; exact H
                                clear H
                                have H := H1
                                clear H1
                                by_cases c46 : 0 < (a0.size : Int)
                                · rw [if_pos c46] at H
                                  have c46b0 : decide (0 < (a0.size : Int)) = true := decide_eq_true c46
                                  have c46b1 : decide (0 < a0.size) = true := decide_eq_true (by omega)
                                  clear c46
                                  by_cases c48 : (bt a0 0) = 40
                                  · rw [if_pos c48] at H
                                    have c48b0 : ((bt a0 0) == 40) = true := beq_iff_eq.mpr c48
                                    have c48b1 : ((bt a0 0) != 40) = false := bne_eq_false_iff_eq.mpr c48
                                    clear c48
                                    by_cases c49 : 0 ≤ 1
                                    · rw [if_pos c49] at H
                                      have c49b0 := eq_true c49
                                      have c49b1 : decide (0 ≤ 1) = true := decide_eq_true c49
                                      clear c49
                                      by_cases c50 : 1 ≤ (a0.size : Int)
                                      · rw [if_pos c50] at H
                                        have c50b0 := eq_true c50
                                        have c50b1 : decide (1 ≤ (a0.size : Int)) = true := decide_eq_true c50
                                        clear c50
                                        simp only [Option.some.injEq, Prod.mk.injEq] at H
                                        obtain ⟨rfl, rfl, rfl, rfl⟩ := H
                                        have p47 : 0 ≤ (0 : Int) := (by omega)
                                        have q47 : 0 < a0.size := (by have : (0 : Int) < (a0.size : Int) := of_decide_eq_true (by first | (with_reducible assumption) | assumption); omega)
                                        have hx47 : ∀ h : 0 < a0.size, ((a0[0]'h).toNat : Int) = bt a0 0 := bt_at a0 0
                                        clear p47
                                        have qi47 : (0 < (a0.size : Int)) = True := eq_true (of_decide_eq_true (by first | (with_reducible assumption) | assumption))
                                        replace q47 := eq_true q47
                                        have hcz51_0 : wc.cell? ⟨gb101, 0, none⟩ = some (.int .i64 0) := (blk_cell BK101.out 0).trans rfl
                                        have hcz51_1 : wc.cell? ⟨gb101, 1, none⟩ = some (.string (⟨#[]⟩ : ByteArray)) := (blk_cell BK101.out 1).trans rfl
                                        have hcz51_2 : wc.cell? ⟨gb101, 2, none⟩ = some (.int .i64 0) := (blk_cell BK101.out 2).trans rfl
                                        have hfz51_0 := blk_frozen BK101.out 0
                                        have hfz51_1 := blk_frozen BK101.out 1
                                        have hfz51_2 := blk_frozen BK101.out 2
                                        go_wp2
                                        refine bodyPost_ret (results_ct rfl _ _ gb101 44 #[.int .i64 3, .string (a0.extract 0 1), .int .i64 0] (0, 0) _ rfl (by (with_reducible repeat (first | refine blk_drewN ?_ _ | refine blk_drew ?_ | refine blk_alloc ?_ _)); refine blk_put (cs := #[.int .i64 3, .string (a0.extract 0 1), .int .i64 0]) ?_ 2 _ rfl; (with_reducible repeat (first | refine blk_drewN ?_ _ | refine blk_drew ?_ | refine blk_alloc ?_ _)); refine blk_put (cs := #[.int .i64 3, .string (⟨#[]⟩ : ByteArray), .int .i64 0]) ?_ 1 _ rfl; (with_reducible repeat (first | refine blk_drewN ?_ _ | refine blk_drew ?_ | refine blk_alloc ?_ _)); refine blk_put (cs := #[.int .i64 0, .string (⟨#[]⟩ : ByteArray), .int .i64 0]) ?_ 0 _ rfl; (with_reducible repeat (first | refine blk_drewN ?_ _ | refine blk_drew ?_ | refine blk_alloc ?_ _)); exact BK101.out) Tryd.underlying44 rfl (by kernel_rfl)) rfl ?_
                                        exact ⟨by first | rfl | (simp [errW_none, errW_some] <;> rfl) | (simp [*, errW_none, errW_some] <;> rfl), by repeat (first | (with_reducible first | exact HB.out | apply below_alloc | apply pw_below_drewN | apply below_drew1 | refine below_set ?_ GE101.out) | exact HB.out)⟩
                                      · rw [if_neg c50] at H
                                        exact absurd H (by simp)
                                    · rw [if_neg c49] at H
                                      exact absurd H (by simp)
                                  · rw [if_neg c48] at H
                                    have c48b0 : ((bt a0 0) == 40) = false := beq_eq_false_iff_ne.mpr c48
                                    have c48b1 : ((bt a0 0) != 40) = true := bne_iff_ne.mpr c48
                                    by_cases c52 : (bt a0 0) = 41
                                    · rw [if_pos c52] at H
                                      have c52b0 : ((bt a0 0) == 41) = true := beq_iff_eq.mpr c52
                                      have c52b1 : ((bt a0 0) != 41) = false := bne_eq_false_iff_eq.mpr c52
                                      clear c52
                                      by_cases c53 : 0 ≤ 1
                                      · rw [if_pos c53] at H
                                        have c53b0 := eq_true c53
                                        have c53b1 : decide (0 ≤ 1) = true := decide_eq_true c53
                                        clear c53
                                        by_cases c54 : 1 ≤ (a0.size : Int)
                                        · rw [if_pos c54] at H
                                          have c54b0 := eq_true c54
                                          have c54b1 : decide (1 ≤ (a0.size : Int)) = true := decide_eq_true c54
                                          clear c54
                                          simp only [Option.some.injEq, Prod.mk.injEq] at H
                                          obtain ⟨rfl, rfl, rfl, rfl⟩ := H
                                          have p47 : 0 ≤ (0 : Int) := (by omega)
                                          have q47 : 0 < a0.size := (by have : (0 : Int) < (a0.size : Int) := of_decide_eq_true (by first | (with_reducible assumption) | assumption); omega)
                                          have hx47 : ∀ h : 0 < a0.size, ((a0[0]'h).toNat : Int) = bt a0 0 := bt_at a0 0
                                          clear p47
                                          have qi47 : (0 < (a0.size : Int)) = True := eq_true (of_decide_eq_true (by first | (with_reducible assumption) | assumption))
                                          replace q47 := eq_true q47
                                          have hcz55_0 : wc.cell? ⟨gb101, 0, none⟩ = some (.int .i64 0) := (blk_cell BK101.out 0).trans rfl
                                          have hcz55_1 : wc.cell? ⟨gb101, 1, none⟩ = some (.string (⟨#[]⟩ : ByteArray)) := (blk_cell BK101.out 1).trans rfl
                                          have hcz55_2 : wc.cell? ⟨gb101, 2, none⟩ = some (.int .i64 0) := (blk_cell BK101.out 2).trans rfl
                                          have hfz55_0 := blk_frozen BK101.out 0
                                          have hfz55_1 := blk_frozen BK101.out 1
                                          have hfz55_2 := blk_frozen BK101.out 2
                                          go_wp2
                                          refine bodyPost_ret (results_ct rfl _ _ gb101 44 #[.int .i64 3, .string (a0.extract 0 1), .int .i64 0] (0, 0) _ rfl (by (with_reducible repeat (first | refine blk_drewN ?_ _ | refine blk_drew ?_ | refine blk_alloc ?_ _)); refine blk_put (cs := #[.int .i64 3, .string (a0.extract 0 1), .int .i64 0]) ?_ 2 _ rfl; (with_reducible repeat (first | refine blk_drewN ?_ _ | refine blk_drew ?_ | refine blk_alloc ?_ _)); refine blk_put (cs := #[.int .i64 3, .string (⟨#[]⟩ : ByteArray), .int .i64 0]) ?_ 1 _ rfl; (with_reducible repeat (first | refine blk_drewN ?_ _ | refine blk_drew ?_ | refine blk_alloc ?_ _)); refine blk_put (cs := #[.int .i64 0, .string (⟨#[]⟩ : ByteArray), .int .i64 0]) ?_ 0 _ rfl; (with_reducible repeat (first | refine blk_drewN ?_ _ | refine blk_drew ?_ | refine blk_alloc ?_ _)); exact BK101.out) Tryd.underlying44 rfl (by kernel_rfl)) rfl ?_
                                          exact ⟨by first | rfl | (simp [errW_none, errW_some] <;> rfl) | (simp [*, errW_none, errW_some] <;> rfl), by repeat (first | (with_reducible first | exact HB.out | apply below_alloc | apply pw_below_drewN | apply below_drew1 | refine below_set ?_ GE101.out) | exact HB.out)⟩
                                        · rw [if_neg c54] at H
                                          exact absurd H (by simp)
                                      · rw [if_neg c53] at H
                                        exact absurd H (by simp)
                                    · rw [if_neg c52] at H
                                      have c52b0 : ((bt a0 0) == 41) = false := beq_eq_false_iff_ne.mpr c52
                                      have c52b1 : ((bt a0 0) != 41) = true := bne_iff_ne.mpr c52
                                      by_cases c56 : (bt a0 0) = 44
                                      · rw [if_pos c56] at H
                                        have c56b0 : ((bt a0 0) == 44) = true := beq_iff_eq.mpr c56
                                        have c56b1 : ((bt a0 0) != 44) = false := bne_eq_false_iff_eq.mpr c56
                                        clear c56
                                        by_cases c57 : 0 ≤ 1
                                        · rw [if_pos c57] at H
                                          have c57b0 := eq_true c57
                                          have c57b1 : decide (0 ≤ 1) = true := decide_eq_true c57
                                          clear c57
                                          by_cases c58 : 1 ≤ (a0.size : Int)
                                          · rw [if_pos c58] at H
                                            have c58b0 := eq_true c58
                                            have c58b1 : decide (1 ≤ (a0.size : Int)) = true := decide_eq_true c58
                                            clear c58
                                            simp only [Option.some.injEq, Prod.mk.injEq] at H
                                            obtain ⟨rfl, rfl, rfl, rfl⟩ := H
                                            have p47 : 0 ≤ (0 : Int) := (by omega)
                                            have q47 : 0 < a0.size := (by have : (0 : Int) < (a0.size : Int) := of_decide_eq_true (by first | (with_reducible assumption) | assumption); omega)
                                            have hx47 : ∀ h : 0 < a0.size, ((a0[0]'h).toNat : Int) = bt a0 0 := bt_at a0 0
                                            clear p47
                                            have qi47 : (0 < (a0.size : Int)) = True := eq_true (of_decide_eq_true (by first | (with_reducible assumption) | assumption))
                                            replace q47 := eq_true q47
                                            have hcz59_0 : wc.cell? ⟨gb101, 0, none⟩ = some (.int .i64 0) := (blk_cell BK101.out 0).trans rfl
                                            have hcz59_1 : wc.cell? ⟨gb101, 1, none⟩ = some (.string (⟨#[]⟩ : ByteArray)) := (blk_cell BK101.out 1).trans rfl
                                            have hcz59_2 : wc.cell? ⟨gb101, 2, none⟩ = some (.int .i64 0) := (blk_cell BK101.out 2).trans rfl
                                            have hfz59_0 := blk_frozen BK101.out 0
                                            have hfz59_1 := blk_frozen BK101.out 1
                                            have hfz59_2 := blk_frozen BK101.out 2
                                            go_wp2
                                            refine bodyPost_ret (results_ct rfl _ _ gb101 44 #[.int .i64 3, .string (a0.extract 0 1), .int .i64 0] (0, 0) _ rfl (by (with_reducible repeat (first | refine blk_drewN ?_ _ | refine blk_drew ?_ | refine blk_alloc ?_ _)); refine blk_put (cs := #[.int .i64 3, .string (a0.extract 0 1), .int .i64 0]) ?_ 2 _ rfl; (with_reducible repeat (first | refine blk_drewN ?_ _ | refine blk_drew ?_ | refine blk_alloc ?_ _)); refine blk_put (cs := #[.int .i64 3, .string (⟨#[]⟩ : ByteArray), .int .i64 0]) ?_ 1 _ rfl; (with_reducible repeat (first | refine blk_drewN ?_ _ | refine blk_drew ?_ | refine blk_alloc ?_ _)); refine blk_put (cs := #[.int .i64 0, .string (⟨#[]⟩ : ByteArray), .int .i64 0]) ?_ 0 _ rfl; (with_reducible repeat (first | refine blk_drewN ?_ _ | refine blk_drew ?_ | refine blk_alloc ?_ _)); exact BK101.out) Tryd.underlying44 rfl (by kernel_rfl)) rfl ?_
                                            exact ⟨by first | rfl | (simp [errW_none, errW_some] <;> rfl) | (simp [*, errW_none, errW_some] <;> rfl), by repeat (first | (with_reducible first | exact HB.out | apply below_alloc | apply pw_below_drewN | apply below_drew1 | refine below_set ?_ GE101.out) | exact HB.out)⟩
                                          · rw [if_neg c58] at H
                                            exact absurd H (by simp)
                                        · rw [if_neg c57] at H
                                          exact absurd H (by simp)
                                      · rw [if_neg c56] at H
                                        have c56b0 : ((bt a0 0) == 44) = false := beq_eq_false_iff_ne.mpr c56
                                        have c56b1 : ((bt a0 0) != 44) = true := bne_iff_ne.mpr c56
                                        by_cases c60 : (bt a0 0) = 61
                                        · rw [if_pos c60] at H
                                          have c60b0 : ((bt a0 0) == 61) = true := beq_iff_eq.mpr c60
                                          have c60b1 : ((bt a0 0) != 61) = false := bne_eq_false_iff_eq.mpr c60
                                          clear c60
                                          by_cases c61 : 0 ≤ 1
                                          · rw [if_pos c61] at H
                                            have c61b0 := eq_true c61
                                            have c61b1 : decide (0 ≤ 1) = true := decide_eq_true c61
                                            clear c61
                                            by_cases c62 : 1 ≤ (a0.size : Int)
                                            · rw [if_pos c62] at H
                                              have c62b0 := eq_true c62
                                              have c62b1 : decide (1 ≤ (a0.size : Int)) = true := decide_eq_true c62
                                              clear c62
                                              simp only [Option.some.injEq, Prod.mk.injEq] at H
                                              obtain ⟨rfl, rfl, rfl, rfl⟩ := H
                                              have p47 : 0 ≤ (0 : Int) := (by omega)
                                              have q47 : 0 < a0.size := (by have : (0 : Int) < (a0.size : Int) := of_decide_eq_true (by first | (with_reducible assumption) | assumption); omega)
                                              have hx47 : ∀ h : 0 < a0.size, ((a0[0]'h).toNat : Int) = bt a0 0 := bt_at a0 0
                                              clear p47
                                              have qi47 : (0 < (a0.size : Int)) = True := eq_true (of_decide_eq_true (by first | (with_reducible assumption) | assumption))
                                              replace q47 := eq_true q47
                                              have hcz63_0 : wc.cell? ⟨gb101, 0, none⟩ = some (.int .i64 0) := (blk_cell BK101.out 0).trans rfl
                                              have hcz63_1 : wc.cell? ⟨gb101, 1, none⟩ = some (.string (⟨#[]⟩ : ByteArray)) := (blk_cell BK101.out 1).trans rfl
                                              have hcz63_2 : wc.cell? ⟨gb101, 2, none⟩ = some (.int .i64 0) := (blk_cell BK101.out 2).trans rfl
                                              have hfz63_0 := blk_frozen BK101.out 0
                                              have hfz63_1 := blk_frozen BK101.out 1
                                              have hfz63_2 := blk_frozen BK101.out 2
                                              go_wp2
                                              refine bodyPost_ret (results_ct rfl _ _ gb101 44 #[.int .i64 3, .string (a0.extract 0 1), .int .i64 0] (0, 0) _ rfl (by (with_reducible repeat (first | refine blk_drewN ?_ _ | refine blk_drew ?_ | refine blk_alloc ?_ _)); refine blk_put (cs := #[.int .i64 3, .string (a0.extract 0 1), .int .i64 0]) ?_ 2 _ rfl; (with_reducible repeat (first | refine blk_drewN ?_ _ | refine blk_drew ?_ | refine blk_alloc ?_ _)); refine blk_put (cs := #[.int .i64 3, .string (⟨#[]⟩ : ByteArray), .int .i64 0]) ?_ 1 _ rfl; (with_reducible repeat (first | refine blk_drewN ?_ _ | refine blk_drew ?_ | refine blk_alloc ?_ _)); refine blk_put (cs := #[.int .i64 0, .string (⟨#[]⟩ : ByteArray), .int .i64 0]) ?_ 0 _ rfl; (with_reducible repeat (first | refine blk_drewN ?_ _ | refine blk_drew ?_ | refine blk_alloc ?_ _)); exact BK101.out) Tryd.underlying44 rfl (by kernel_rfl)) rfl ?_
                                              exact ⟨by first | rfl | (simp [errW_none, errW_some] <;> rfl) | (simp [*, errW_none, errW_some] <;> rfl), by repeat (first | (with_reducible first | exact HB.out | apply below_alloc | apply pw_below_drewN | apply below_drew1 | refine below_set ?_ GE101.out) | exact HB.out)⟩
                                            · rw [if_neg c62] at H
                                              exact absurd H (by simp)
                                          · rw [if_neg c61] at H
                                            exact absurd H (by simp)
                                        · rw [if_neg c60] at H
                                          have c60b0 : ((bt a0 0) == 61) = false := beq_eq_false_iff_ne.mpr c60
                                          have c60b1 : ((bt a0 0) != 61) = true := bne_iff_ne.mpr c60
                                          by_cases c64 : (bt a0 0) = 60
                                          · rw [if_pos c64] at H
                                            have c64b0 : ((bt a0 0) == 60) = true := beq_iff_eq.mpr c64
                                            have c64b1 : ((bt a0 0) != 60) = false := bne_eq_false_iff_eq.mpr c64
                                            clear c64
                                            by_cases c65 : 0 ≤ 1
                                            · rw [if_pos c65] at H
                                              have c65b0 := eq_true c65
                                              have c65b1 : decide (0 ≤ 1) = true := decide_eq_true c65
                                              clear c65
                                              by_cases c66 : 1 ≤ (a0.size : Int)
                                              · rw [if_pos c66] at H
                                                have c66b0 := eq_true c66
                                                have c66b1 : decide (1 ≤ (a0.size : Int)) = true := decide_eq_true c66
                                                clear c66
                                                simp only [Option.some.injEq, Prod.mk.injEq] at H
                                                obtain ⟨rfl, rfl, rfl, rfl⟩ := H
                                                have p47 : 0 ≤ (0 : Int) := (by omega)
                                                have q47 : 0 < a0.size := (by have : (0 : Int) < (a0.size : Int) := of_decide_eq_true (by first | (with_reducible assumption) | assumption); omega)
                                                have hx47 : ∀ h : 0 < a0.size, ((a0[0]'h).toNat : Int) = bt a0 0 := bt_at a0 0
                                                clear p47
                                                have qi47 : (0 < (a0.size : Int)) = True := eq_true (of_decide_eq_true (by first | (with_reducible assumption) | assumption))
                                                replace q47 := eq_true q47
                                                have hcz67_0 : wc.cell? ⟨gb101, 0, none⟩ = some (.int .i64 0) := (blk_cell BK101.out 0).trans rfl
                                                have hcz67_1 : wc.cell? ⟨gb101, 1, none⟩ = some (.string (⟨#[]⟩ : ByteArray)) := (blk_cell BK101.out 1).trans rfl
                                                have hcz67_2 : wc.cell? ⟨gb101, 2, none⟩ = some (.int .i64 0) := (blk_cell BK101.out 2).trans rfl
                                                have hfz67_0 := blk_frozen BK101.out 0
                                                have hfz67_1 := blk_frozen BK101.out 1
                                                have hfz67_2 := blk_frozen BK101.out 2
                                                go_wp2
                                                refine bodyPost_ret (results_ct rfl _ _ gb101 44 #[.int .i64 3, .string (a0.extract 0 1), .int .i64 0] (0, 0) _ rfl (by (with_reducible repeat (first | refine blk_drewN ?_ _ | refine blk_drew ?_ | refine blk_alloc ?_ _)); refine blk_put (cs := #[.int .i64 3, .string (a0.extract 0 1), .int .i64 0]) ?_ 2 _ rfl; (with_reducible repeat (first | refine blk_drewN ?_ _ | refine blk_drew ?_ | refine blk_alloc ?_ _)); refine blk_put (cs := #[.int .i64 3, .string (⟨#[]⟩ : ByteArray), .int .i64 0]) ?_ 1 _ rfl; (with_reducible repeat (first | refine blk_drewN ?_ _ | refine blk_drew ?_ | refine blk_alloc ?_ _)); refine blk_put (cs := #[.int .i64 0, .string (⟨#[]⟩ : ByteArray), .int .i64 0]) ?_ 0 _ rfl; (with_reducible repeat (first | refine blk_drewN ?_ _ | refine blk_drew ?_ | refine blk_alloc ?_ _)); exact BK101.out) Tryd.underlying44 rfl (by kernel_rfl)) rfl ?_
                                                exact ⟨by first | rfl | (simp [errW_none, errW_some] <;> rfl) | (simp [*, errW_none, errW_some] <;> rfl), by repeat (first | (with_reducible first | exact HB.out | apply below_alloc | apply pw_below_drewN | apply below_drew1 | refine below_set ?_ GE101.out) | exact HB.out)⟩
                                              · rw [if_neg c66] at H
                                                exact absurd H (by simp)
                                            · rw [if_neg c65] at H
                                              exact absurd H (by simp)
                                          · rw [if_neg c64] at H
                                            have c64b0 : ((bt a0 0) == 60) = false := beq_eq_false_iff_ne.mpr c64
                                            have c64b1 : ((bt a0 0) != 60) = true := bne_iff_ne.mpr c64
                                            by_cases c68 : (bt a0 0) = 62
                                            · rw [if_pos c68] at H
                                              have c68b0 : ((bt a0 0) == 62) = true := beq_iff_eq.mpr c68
                                              have c68b1 : ((bt a0 0) != 62) = false := bne_eq_false_iff_eq.mpr c68
                                              clear c68
                                              by_cases c69 : 0 ≤ 1
                                              · rw [if_pos c69] at H
                                                have c69b0 := eq_true c69
                                                have c69b1 : decide (0 ≤ 1) = true := decide_eq_true c69
                                                clear c69
                                                by_cases c70 : 1 ≤ (a0.size : Int)
                                                · rw [if_pos c70] at H
                                                  have c70b0 := eq_true c70
                                                  have c70b1 : decide (1 ≤ (a0.size : Int)) = true := decide_eq_true c70
                                                  clear c70
                                                  simp only [Option.some.injEq, Prod.mk.injEq] at H
                                                  obtain ⟨rfl, rfl, rfl, rfl⟩ := H
                                                  have p47 : 0 ≤ (0 : Int) := (by omega)
                                                  have q47 : 0 < a0.size := (by have : (0 : Int) < (a0.size : Int) := of_decide_eq_true (by first | (with_reducible assumption) | assumption); omega)
                                                  have hx47 : ∀ h : 0 < a0.size, ((a0[0]'h).toNat : Int) = bt a0 0 := bt_at a0 0
                                                  clear p47
                                                  have qi47 : (0 < (a0.size : Int)) = True := eq_true (of_decide_eq_true (by first | (with_reducible assumption) | assumption))
                                                  replace q47 := eq_true q47
                                                  have hcz71_0 : wc.cell? ⟨gb101, 0, none⟩ = some (.int .i64 0) := (blk_cell BK101.out 0).trans rfl
                                                  have hcz71_1 : wc.cell? ⟨gb101, 1, none⟩ = some (.string (⟨#[]⟩ : ByteArray)) := (blk_cell BK101.out 1).trans rfl
                                                  have hcz71_2 : wc.cell? ⟨gb101, 2, none⟩ = some (.int .i64 0) := (blk_cell BK101.out 2).trans rfl
                                                  have hfz71_0 := blk_frozen BK101.out 0
                                                  have hfz71_1 := blk_frozen BK101.out 1
                                                  have hfz71_2 := blk_frozen BK101.out 2
                                                  go_wp2
                                                  refine bodyPost_ret (results_ct rfl _ _ gb101 44 #[.int .i64 3, .string (a0.extract 0 1), .int .i64 0] (0, 0) _ rfl (by (with_reducible repeat (first | refine blk_drewN ?_ _ | refine blk_drew ?_ | refine blk_alloc ?_ _)); refine blk_put (cs := #[.int .i64 3, .string (a0.extract 0 1), .int .i64 0]) ?_ 2 _ rfl; (with_reducible repeat (first | refine blk_drewN ?_ _ | refine blk_drew ?_ | refine blk_alloc ?_ _)); refine blk_put (cs := #[.int .i64 3, .string (⟨#[]⟩ : ByteArray), .int .i64 0]) ?_ 1 _ rfl; (with_reducible repeat (first | refine blk_drewN ?_ _ | refine blk_drew ?_ | refine blk_alloc ?_ _)); refine blk_put (cs := #[.int .i64 0, .string (⟨#[]⟩ : ByteArray), .int .i64 0]) ?_ 0 _ rfl; (with_reducible repeat (first | refine blk_drewN ?_ _ | refine blk_drew ?_ | refine blk_alloc ?_ _)); exact BK101.out) Tryd.underlying44 rfl (by kernel_rfl)) rfl ?_
                                                  exact ⟨by first | rfl | (simp [errW_none, errW_some] <;> rfl) | (simp [*, errW_none, errW_some] <;> rfl), by repeat (first | (with_reducible first | exact HB.out | apply below_alloc | apply pw_below_drewN | apply below_drew1 | refine below_set ?_ GE101.out) | exact HB.out)⟩
                                                · rw [if_neg c70] at H
                                                  exact absurd H (by simp)
                                              · rw [if_neg c69] at H
                                                exact absurd H (by simp)
                                            · rw [if_neg c68] at H
                                              have c68b0 : ((bt a0 0) == 62) = false := beq_eq_false_iff_ne.mpr c68
                                              have c68b1 : ((bt a0 0) != 62) = true := bne_iff_ne.mpr c68
                                              by_cases c72 : (bt a0 0) = 43
                                              · rw [if_pos c72] at H
                                                have c72b0 : ((bt a0 0) == 43) = true := beq_iff_eq.mpr c72
                                                have c72b1 : ((bt a0 0) != 43) = false := bne_eq_false_iff_eq.mpr c72
                                                clear c72
                                                by_cases c73 : 0 ≤ 1
                                                · rw [if_pos c73] at H
                                                  have c73b0 := eq_true c73
                                                  have c73b1 : decide (0 ≤ 1) = true := decide_eq_true c73
                                                  clear c73
                                                  by_cases c74 : 1 ≤ (a0.size : Int)
                                                  · rw [if_pos c74] at H
                                                    have c74b0 := eq_true c74
                                                    have c74b1 : decide (1 ≤ (a0.size : Int)) = true := decide_eq_true c74
                                                    clear c74
                                                    simp only [Option.some.injEq, Prod.mk.injEq] at H
                                                    obtain ⟨rfl, rfl, rfl, rfl⟩ := H
                                                    have p47 : 0 ≤ (0 : Int) := (by omega)
                                                    have q47 : 0 < a0.size := (by have : (0 : Int) < (a0.size : Int) := of_decide_eq_true (by first | (with_reducible assumption) | assumption); omega)
                                                    have hx47 : ∀ h : 0 < a0.size, ((a0[0]'h).toNat : Int) = bt a0 0 := bt_at a0 0
                                                    clear p47
                                                    have qi47 : (0 < (a0.size : Int)) = True := eq_true (of_decide_eq_true (by first | (with_reducible assumption) | assumption))
                                                    replace q47 := eq_true q47
                                                    have hcz75_0 : wc.cell? ⟨gb101, 0, none⟩ = some (.int .i64 0) := (blk_cell BK101.out 0).trans rfl
                                                    have hcz75_1 : wc.cell? ⟨gb101, 1, none⟩ = some (.string (⟨#[]⟩ : ByteArray)) := (blk_cell BK101.out 1).trans rfl
                                                    have hcz75_2 : wc.cell? ⟨gb101, 2, none⟩ = some (.int .i64 0) := (blk_cell BK101.out 2).trans rfl
                                                    have hfz75_0 := blk_frozen BK101.out 0
                                                    have hfz75_1 := blk_frozen BK101.out 1
                                                    have hfz75_2 := blk_frozen BK101.out 2
                                                    go_wp2
                                                    refine bodyPost_ret (results_ct rfl _ _ gb101 44 #[.int .i64 3, .string (a0.extract 0 1), .int .i64 0] (0, 0) _ rfl (by (with_reducible repeat (first | refine blk_drewN ?_ _ | refine blk_drew ?_ | refine blk_alloc ?_ _)); refine blk_put (cs := #[.int .i64 3, .string (a0.extract 0 1), .int .i64 0]) ?_ 2 _ rfl; (with_reducible repeat (first | refine blk_drewN ?_ _ | refine blk_drew ?_ | refine blk_alloc ?_ _)); refine blk_put (cs := #[.int .i64 3, .string (⟨#[]⟩ : ByteArray), .int .i64 0]) ?_ 1 _ rfl; (with_reducible repeat (first | refine blk_drewN ?_ _ | refine blk_drew ?_ | refine blk_alloc ?_ _)); refine blk_put (cs := #[.int .i64 0, .string (⟨#[]⟩ : ByteArray), .int .i64 0]) ?_ 0 _ rfl; (with_reducible repeat (first | refine blk_drewN ?_ _ | refine blk_drew ?_ | refine blk_alloc ?_ _)); exact BK101.out) Tryd.underlying44 rfl (by kernel_rfl)) rfl ?_
                                                    exact ⟨by first | rfl | (simp [errW_none, errW_some] <;> rfl) | (simp [*, errW_none, errW_some] <;> rfl), by repeat (first | (with_reducible first | exact HB.out | apply below_alloc | apply pw_below_drewN | apply below_drew1 | refine below_set ?_ GE101.out) | exact HB.out)⟩
                                                  · rw [if_neg c74] at H
                                                    exact absurd H (by simp)
                                                · rw [if_neg c73] at H
                                                  exact absurd H (by simp)
                                              · rw [if_neg c72] at H
                                                have c72b0 : ((bt a0 0) == 43) = false := beq_eq_false_iff_ne.mpr c72
                                                have c72b1 : ((bt a0 0) != 43) = true := bne_iff_ne.mpr c72
                                                by_cases c76 : (bt a0 0) = 45
                                                · rw [if_pos c76] at H
                                                  have c76b0 : ((bt a0 0) == 45) = true := beq_iff_eq.mpr c76
                                                  have c76b1 : ((bt a0 0) != 45) = false := bne_eq_false_iff_eq.mpr c76
                                                  clear c76
                                                  by_cases c77 : 0 ≤ 1
                                                  · rw [if_pos c77] at H
                                                    have c77b0 := eq_true c77
                                                    have c77b1 : decide (0 ≤ 1) = true := decide_eq_true c77
                                                    clear c77
                                                    by_cases c78 : 1 ≤ (a0.size : Int)
                                                    · rw [if_pos c78] at H
                                                      have c78b0 := eq_true c78
                                                      have c78b1 : decide (1 ≤ (a0.size : Int)) = true := decide_eq_true c78
                                                      clear c78
                                                      simp only [Option.some.injEq, Prod.mk.injEq] at H
                                                      obtain ⟨rfl, rfl, rfl, rfl⟩ := H
                                                      have p47 : 0 ≤ (0 : Int) := (by omega)
                                                      have q47 : 0 < a0.size := (by have : (0 : Int) < (a0.size : Int) := of_decide_eq_true (by first | (with_reducible assumption) | assumption); omega)
                                                      have hx47 : ∀ h : 0 < a0.size, ((a0[0]'h).toNat : Int) = bt a0 0 := bt_at a0 0
                                                      clear p47
                                                      have qi47 : (0 < (a0.size : Int)) = True := eq_true (of_decide_eq_true (by first | (with_reducible assumption) | assumption))
                                                      replace q47 := eq_true q47
                                                      have hcz79_0 : wc.cell? ⟨gb101, 0, none⟩ = some (.int .i64 0) := (blk_cell BK101.out 0).trans rfl
                                                      have hcz79_1 : wc.cell? ⟨gb101, 1, none⟩ = some (.string (⟨#[]⟩ : ByteArray)) := (blk_cell BK101.out 1).trans rfl
                                                      have hcz79_2 : wc.cell? ⟨gb101, 2, none⟩ = some (.int .i64 0) := (blk_cell BK101.out 2).trans rfl
                                                      have hfz79_0 := blk_frozen BK101.out 0
                                                      have hfz79_1 := blk_frozen BK101.out 1
                                                      have hfz79_2 := blk_frozen BK101.out 2
                                                      go_wp2
                                                      refine bodyPost_ret (results_ct rfl _ _ gb101 44 #[.int .i64 3, .string (a0.extract 0 1), .int .i64 0] (0, 0) _ rfl (by (with_reducible repeat (first | refine blk_drewN ?_ _ | refine blk_drew ?_ | refine blk_alloc ?_ _)); refine blk_put (cs := #[.int .i64 3, .string (a0.extract 0 1), .int .i64 0]) ?_ 2 _ rfl; (with_reducible repeat (first | refine blk_drewN ?_ _ | refine blk_drew ?_ | refine blk_alloc ?_ _)); refine blk_put (cs := #[.int .i64 3, .string (⟨#[]⟩ : ByteArray), .int .i64 0]) ?_ 1 _ rfl; (with_reducible repeat (first | refine blk_drewN ?_ _ | refine blk_drew ?_ | refine blk_alloc ?_ _)); refine blk_put (cs := #[.int .i64 0, .string (⟨#[]⟩ : ByteArray), .int .i64 0]) ?_ 0 _ rfl; (with_reducible repeat (first | refine blk_drewN ?_ _ | refine blk_drew ?_ | refine blk_alloc ?_ _)); exact BK101.out) Tryd.underlying44 rfl (by kernel_rfl)) rfl ?_
                                                      exact ⟨by first | rfl | (simp [errW_none, errW_some] <;> rfl) | (simp [*, errW_none, errW_some] <;> rfl), by repeat (first | (with_reducible first | exact HB.out | apply below_alloc | apply pw_below_drewN | apply below_drew1 | refine below_set ?_ GE101.out) | exact HB.out)⟩
                                                    · rw [if_neg c78] at H
                                                      exact absurd H (by simp)
                                                  · rw [if_neg c77] at H
                                                    exact absurd H (by simp)
                                                · rw [if_neg c76] at H
                                                  have c76b0 : ((bt a0 0) == 45) = false := beq_eq_false_iff_ne.mpr c76
                                                  have c76b1 : ((bt a0 0) != 45) = true := bne_iff_ne.mpr c76
                                                  by_cases c80 : (bt a0 0) = 42
                                                  · rw [if_pos c80] at H
                                                    have c80b0 : ((bt a0 0) == 42) = true := beq_iff_eq.mpr c80
                                                    have c80b1 : ((bt a0 0) != 42) = false := bne_eq_false_iff_eq.mpr c80
                                                    clear c80
                                                    by_cases c81 : 0 ≤ 1
                                                    · rw [if_pos c81] at H
                                                      have c81b0 := eq_true c81
                                                      have c81b1 : decide (0 ≤ 1) = true := decide_eq_true c81
                                                      clear c81
                                                      by_cases c82 : 1 ≤ (a0.size : Int)
                                                      · rw [if_pos c82] at H
                                                        have c82b0 := eq_true c82
                                                        have c82b1 : decide (1 ≤ (a0.size : Int)) = true := decide_eq_true c82
                                                        clear c82
                                                        simp only [Option.some.injEq, Prod.mk.injEq] at H
                                                        obtain ⟨rfl, rfl, rfl, rfl⟩ := H
                                                        have p47 : 0 ≤ (0 : Int) := (by omega)
                                                        have q47 : 0 < a0.size := (by have : (0 : Int) < (a0.size : Int) := of_decide_eq_true (by first | (with_reducible assumption) | assumption); omega)
                                                        have hx47 : ∀ h : 0 < a0.size, ((a0[0]'h).toNat : Int) = bt a0 0 := bt_at a0 0
                                                        clear p47
                                                        have qi47 : (0 < (a0.size : Int)) = True := eq_true (of_decide_eq_true (by first | (with_reducible assumption) | assumption))
                                                        replace q47 := eq_true q47
                                                        have hcz83_0 : wc.cell? ⟨gb101, 0, none⟩ = some (.int .i64 0) := (blk_cell BK101.out 0).trans rfl
                                                        have hcz83_1 : wc.cell? ⟨gb101, 1, none⟩ = some (.string (⟨#[]⟩ : ByteArray)) := (blk_cell BK101.out 1).trans rfl
                                                        have hcz83_2 : wc.cell? ⟨gb101, 2, none⟩ = some (.int .i64 0) := (blk_cell BK101.out 2).trans rfl
                                                        have hfz83_0 := blk_frozen BK101.out 0
                                                        have hfz83_1 := blk_frozen BK101.out 1
                                                        have hfz83_2 := blk_frozen BK101.out 2
                                                        go_wp2
                                                        refine bodyPost_ret (results_ct rfl _ _ gb101 44 #[.int .i64 3, .string (a0.extract 0 1), .int .i64 0] (0, 0) _ rfl (by (with_reducible repeat (first | refine blk_drewN ?_ _ | refine blk_drew ?_ | refine blk_alloc ?_ _)); refine blk_put (cs := #[.int .i64 3, .string (a0.extract 0 1), .int .i64 0]) ?_ 2 _ rfl; (with_reducible repeat (first | refine blk_drewN ?_ _ | refine blk_drew ?_ | refine blk_alloc ?_ _)); refine blk_put (cs := #[.int .i64 3, .string (⟨#[]⟩ : ByteArray), .int .i64 0]) ?_ 1 _ rfl; (with_reducible repeat (first | refine blk_drewN ?_ _ | refine blk_drew ?_ | refine blk_alloc ?_ _)); refine blk_put (cs := #[.int .i64 0, .string (⟨#[]⟩ : ByteArray), .int .i64 0]) ?_ 0 _ rfl; (with_reducible repeat (first | refine blk_drewN ?_ _ | refine blk_drew ?_ | refine blk_alloc ?_ _)); exact BK101.out) Tryd.underlying44 rfl (by kernel_rfl)) rfl ?_
                                                        exact ⟨by first | rfl | (simp [errW_none, errW_some] <;> rfl) | (simp [*, errW_none, errW_some] <;> rfl), by repeat (first | (with_reducible first | exact HB.out | apply below_alloc | apply pw_below_drewN | apply below_drew1 | refine below_set ?_ GE101.out) | exact HB.out)⟩
                                                      · rw [if_neg c82] at H
                                                        exact absurd H (by simp)
                                                    · rw [if_neg c81] at H
                                                      exact absurd H (by simp)
                                                  · rw [if_neg c80] at H
                                                    have c80b0 : ((bt a0 0) == 42) = false := beq_eq_false_iff_ne.mpr c80
                                                    have c80b1 : ((bt a0 0) != 42) = true := bne_iff_ne.mpr c80
                                                    simp only [Option.some.injEq, Prod.mk.injEq] at H
                                                    obtain ⟨rfl, rfl, rfl, rfl⟩ := H
                                                    have p47 : 0 ≤ (0 : Int) := (by omega)
                                                    have q47 : 0 < a0.size := (by have : (0 : Int) < (a0.size : Int) := of_decide_eq_true (by first | (with_reducible assumption) | assumption); omega)
                                                    have hx47 : ∀ h : 0 < a0.size, ((a0[0]'h).toNat : Int) = bt a0 0 := bt_at a0 0
                                                    clear p47
                                                    have qi47 : (0 < (a0.size : Int)) = True := eq_true (of_decide_eq_true (by first | (with_reducible assumption) | assumption))
                                                    replace q47 := eq_true q47
                                                    have hcz84_0 : wc.cell? ⟨gb101, 0, none⟩ = some (.int .i64 0) := (blk_cell BK101.out 0).trans rfl
                                                    have hcz84_1 : wc.cell? ⟨gb101, 1, none⟩ = some (.string (⟨#[]⟩ : ByteArray)) := (blk_cell BK101.out 1).trans rfl
                                                    have hcz84_2 : wc.cell? ⟨gb101, 2, none⟩ = some (.int .i64 0) := (blk_cell BK101.out 2).trans rfl
                                                    have hfz84_0 := blk_frozen BK101.out 0
                                                    have hfz84_1 := blk_frozen BK101.out 1
                                                    have hfz84_2 := blk_frozen BK101.out 2
                                                    go_wp2
                                                    refine bodyPost_ret (results_ct rfl _ _ gb101 44 #[.int .i64 0, .string (⟨#[]⟩ : ByteArray), .int .i64 0] (0, 0) _ rfl (by (with_reducible repeat (first | refine blk_drewN ?_ _ | refine blk_drew ?_ | refine blk_alloc ?_ _)); refine blk_put (cs := #[.int .i64 0, .string (⟨#[]⟩ : ByteArray), .int .i64 0]) ?_ 2 _ rfl; (with_reducible repeat (first | refine blk_drewN ?_ _ | refine blk_drew ?_ | refine blk_alloc ?_ _)); refine blk_put (cs := #[.int .i64 0, .string (⟨#[]⟩ : ByteArray), .int .i64 0]) ?_ 1 _ rfl; (with_reducible repeat (first | refine blk_drewN ?_ _ | refine blk_drew ?_ | refine blk_alloc ?_ _)); refine blk_put (cs := #[.int .i64 0, .string (⟨#[]⟩ : ByteArray), .int .i64 0]) ?_ 0 _ rfl; (with_reducible repeat (first | refine blk_drewN ?_ _ | refine blk_drew ?_ | refine blk_alloc ?_ _)); exact BK101.out) Tryd.underlying44 rfl (by kernel_rfl)) rfl ?_
                                                    exact ⟨by first | rfl | (simp [errW_none, errW_some] <;> rfl) | (simp [*, errW_none, errW_some] <;> rfl), by repeat (first | (with_reducible first | exact HB.out | apply below_alloc | apply pw_below_drewN | apply below_drew1 | refine below_set ?_ GE101.out) | exact HB.out)⟩
                                · rw [if_neg c46] at H
                                  exact absurd H (by simp)
                      · rw [if_neg c25] at H
                        exact absurd H (by simp)
  · rw [if_neg c2] at H
    exact absurd H (by simp)
end Go.Proofs.YtngeelpfbajppaaDoor.PA
end
section
namespace Go.Proofs.YtngeelpfbajppaaDoor.PA
open Go.RowKit Go.Proofs.YtngeelpfbajppaaDoorW.PrintWords Go.Proofs.YtngeelpfbajppaaDoorW.PrintLast Go.Proofs.YtngeelpfbajppaaDoorW.PrintMore
attribute [local go_sem] max2_int min2_int max_two min_two max_three min_three max_four min_four
attribute [local go_sem high] Go.Proofs.YtngeelpfbajppaaDoor.Bs.gtr_bl Go.Proofs.YtngeelpfbajppaaDoor.Bs.leq_bl Go.Proofs.YtngeelpfbajppaaDoor.Bs.cell_set2
set_option linter.unusedVariables false
set_option linter.unusedSimpArgs false
mutual
def instarref08_Words.l0 : Nat → ByteArray → List (S44) → Int → Option ((List (S44)) × Int × Int)
  | 0, _, _, _ => none
  | k + 1, x0, x5, x6 => if x6 < (x0.size : Int) then (if 0 ≤ x6 then (if (bt x0 x6) = 32 then (instarref08_Words.j1 k x0 x5 x6 true) else (if (bt x0 x6) = 9 then (instarref08_Words.j1 k x0 x5 x6 true) else (instarref08_Words.j1 k x0 x5 x6 ((bt x0 x6) == 10)))) else (none)) else (some (x5, 0, 0))
def instarref08_Words.j1 : Nat → ByteArray → List (S44) → Int → Bool → Option ((List (S44)) × Int × Int)
  | 0, _, _, _, _ => none
  | k + 1, x0, x5, x6, x28 => if x28 = true then (instarref08_Words.l0 k x0 x5 (wrap64 (x6 + 1))) else (if 0 ≤ x6 then (if x6 ≤ (x0.size : Int) then ((instarref08_one.f k (x0.extract (x6 : Int).toNat x0.size)).bind fun bt101 => (if bt101.2.2.2 = 0 then (some (([] : List (S44)), x6, 81)) else (if x5.length < 4398046511104 then (instarref08_Words.l0 k x0 (x5 ++ [(⟨bt101.1, bt101.2.1, x6⟩ : S44)]) (wrap64 (x6 + bt101.2.2.2))) else (none)))) else (none)) else (none))
end
def instarref08_Words.f (k : Nat) (a0 : ByteArray) : Option ((List (S44)) × Int × Int) := instarref08_Words.l0 k a0 ([] : List (S44)) 0
theorem instarref08_Words.mono_l : ∀ k, (∀ y0 y1 y2, LeO (instarref08_Words.l0 k y0 y1 y2) (instarref08_Words.l0 (k + 1) y0 y1 y2)) ∧ (∀ y0 y1 y2 y3, LeO (instarref08_Words.j1 k y0 y1 y2 y3) (instarref08_Words.j1 (k + 1) y0 y1 y2 y3))
  | 0 => ⟨fun _ _ _ r h => by simp [instarref08_Words.l0] at h, fun _ _ _ _ r h => by simp [instarref08_Words.j1] at h⟩
  | k + 1 => by
    obtain ⟨ih0, ih1⟩ := instarref08_Words.mono_l k
    refine ⟨?_, ?_⟩
    · intro y0 y1 y2
      unfold instarref08_Words.l0
      repeat' first
      | (with_reducible exact ih0 _ _ _)
      | (with_reducible exact ih1 _ _ _ _)
      | (with_reducible exact instarref08_one.mono _ _)
      | (with_reducible exact LeO.refl _)
      | (with_reducible exact LeO.none _)
      | (with_reducible refine LeO.ite ?_ ?_)
      | (with_reducible refine LeO.bind ?_ (fun _ => ?_))
      | exact ih0 _ _ _
      | exact ih1 _ _ _ _
      | exact instarref08_one.mono _ _
      | exact LeO.none _
      | refine LeO.ite ?_ ?_
      | refine LeO.bind ?_ (fun _ => ?_)
    · intro y0 y1 y2 y3
      unfold instarref08_Words.j1
      repeat' first
      | (with_reducible exact ih0 _ _ _)
      | (with_reducible exact ih1 _ _ _ _)
      | (with_reducible exact instarref08_one.mono _ _)
      | (with_reducible exact LeO.refl _)
      | (with_reducible exact LeO.none _)
      | (with_reducible refine LeO.ite ?_ ?_)
      | (with_reducible refine LeO.bind ?_ (fun _ => ?_))
      | exact ih0 _ _ _
      | exact ih1 _ _ _ _
      | exact instarref08_one.mono _ _
      | exact LeO.none _
      | refine LeO.ite ?_ ?_
      | refine LeO.bind ?_ (fun _ => ?_)
theorem instarref08_Words.mono : ∀ a0 k, LeO (instarref08_Words.f k a0) (instarref08_Words.f (k + 1) a0) := by
  intro a0 k
  obtain ⟨ih0, ih1⟩ := instarref08_Words.mono_l k
  unfold instarref08_Words.f
  repeat' first
      | (with_reducible exact ih0 _ _ _)
      | (with_reducible exact ih1 _ _ _ _)
      | (with_reducible exact instarref08_one.mono _ _)
      | (with_reducible exact LeO.refl _)
      | (with_reducible exact LeO.none _)
      | (with_reducible refine LeO.ite ?_ ?_)
      | (with_reducible refine LeO.bind ?_ (fun _ => ?_))
      | exact ih0 _ _ _
      | exact ih1 _ _ _ _
      | exact instarref08_one.mono _ _
      | exact LeO.none _
      | refine LeO.ite ?_ ?_
      | refine LeO.bind ?_ (fun _ => ?_)
set_option maxHeartbeats 8000000 in
set_option maxRecDepth 100000 in
theorem instarref08_Words.calls (k : Nat) (a0 : ByteArray) (r1 : List (S44)) (r2 : Int) (r3 : Int) (w : World) (h : instarref08_Words.f k a0 = some (r1, r2, r3)) :
    Calls Tryd.prog 9 #[.string a0] w fun e w' => ∃ v0_ : Value, e = .returned (.tuple #[v0_, .int .i64 r2, .int .i64 r3]) ∧ Kd.R k44 44 w' w.heap.size (fun _ => True) v0_ r1 ∧ Below w.heap.size w w' := by
  have hu44 := Tryd.underlying44
  have HB := Aside0.mk (Below.refl w.heap.size w)
  have H : (instarref08_Words.l0 k a0 ([] : List (S44)) 0) = some (r1, r2, r3) := h
  clear h
  have H' := Aside0.mk H
  clear H
  go_enter Tryd.func9, Tryd.ntmps9
  go_wp2
  go_loopg [5, 6] k (fun kq v5 v6 w' => ∃ (x5_1 : List (S44)) (x6_1 : Int), v6 = .int .i64 x6_1 ∧ Aside0 (instarref08_Words.l0 kq a0 x5_1 x6_1 = some (r1, r2, r3)) ∧ Aside0 (kq ≤ k) ∧ Aside0 (Kd.R k44 44 w' w.heap.size (fun _ => True) v5 x5_1) ∧ Aside0 (Below w.heap.size w w'))
  case atStart => exact ⟨(([] : List (S44))), (0), (by first | rfl | (simp; done) | (simp [*]; done) | (simp [Go.Proofs.YtngeelpfbajppaaDoor.Bs.isEmpty_bne, Go.Proofs.YtngeelpfbajppaaDoor.Bs.isEmpty_beq]; done)), H', ⟨Nat.le_refl _⟩, ⟨by first | exact Kd.R_nil _ _ _ _ _ | exact Kd.N_nil _ _ _ _ _ | exact Kd.V_nil _ _ _ _ _ | exact Kd.Q_nil _ _ _ _ _ | exact Kd.S_nil _ _ _ _ _⟩, ⟨by repeat (first | (with_reducible first | exact HB.out | apply below_alloc | apply pw_below_drewN | apply below_drew1) | exact HB.out)⟩⟩
  case round =>
    clear H'
    obtain ⟨x5_1, x6_1, rfl, HA, HK1, HO_5, HB⟩ := hrel
    cases gk with
    | zero => exact absurd HA.out (by simp [instarref08_Words.l0])
    | succ k1 =>
      have H := HA.out
      clear HA
      simp only [instarref08_Words.l0] at H
      by_cases c2 : x6_1 < (a0.size : Int)
      · rw [if_pos c2] at H
        have c2b0 : decide (x6_1 < (a0.size : Int)) = true := decide_eq_true c2
        clear c2
        have HC3 := Aside0.mk H
        clear H
        go_upto_region 4 with (fail)
        go_cut [28] (fun v28 wc => ∃ (kq : Nat) (x28_2 : Bool), v28 = .bool x28_2 ∧ Aside0 (instarref08_Words.j1 kq a0 x5_1 x6_1 x28_2 = some (r1, r2, r3)) ∧ Aside0 (kq ≤ k1) ∧ Aside0 (Kd.R k44 44 wc w.heap.size (fun _ => True) u5 x5_1) ∧ Aside0 (Below w.heap.size w wc))
        case first =>
          have H := HC3.out
          clear HC3
          by_cases c4 : 0 ≤ x6_1
          · rw [if_pos c4] at H
            have c4b0 : decide (0 ≤ x6_1) = true := decide_eq_true c4
            clear c4
            (first | rw [c4b0] | (simp only [i64_w, i32_w]; rw [c4b0]) | skip)
            by_cases c6 : (bt a0 x6_1) = 32
            · rw [if_pos c6] at H
              have c6b0 : ((bt a0 x6_1) == 32) = true := beq_iff_eq.mpr c6
              have c6b1 : ((bt a0 x6_1) != 32) = false := bne_eq_false_iff_eq.mpr c6
              clear c6
              have H' := Aside0.mk H
              clear H
              have p5 : 0 ≤ (x6_1 : Int) := of_decide_eq_true (by first | (with_reducible assumption) | assumption)
              have q5 : x6_1 < (a0.size : Int) := of_decide_eq_true (by first | (with_reducible assumption) | assumption)
              have hx5 := bt_at a0 x6_1
              replace p5 := eq_true p5
              replace q5 := eq_true q5
              go_wp2
              go_meet
              case rel => exact ⟨_, (true), (by first | rfl | (simp; done) | (simp [*]; done) | (simp [Go.Proofs.YtngeelpfbajppaaDoor.Bs.isEmpty_bne, Go.Proofs.YtngeelpfbajppaaDoor.Bs.isEmpty_beq]; done)), H', ⟨by have := HK1.out; first | omega | exact Nat.le_refl _⟩, ⟨by (with_reducible repeat (first | apply Kd.R_alloc | apply Kd.R_drewN | apply Kd.R_drew)); exact HO_5.out⟩, ⟨by repeat (first | (with_reducible first | exact HB.out | apply below_alloc | apply pw_below_drewN | apply below_drew1) | exact HB.out)⟩⟩
            · rw [if_neg c6] at H
              have c6b0 : ((bt a0 x6_1) == 32) = false := beq_eq_false_iff_ne.mpr c6
              have c6b1 : ((bt a0 x6_1) != 32) = true := bne_iff_ne.mpr c6
              by_cases c8 : (bt a0 x6_1) = 9
              · rw [if_pos c8] at H
                have c8b0 : ((bt a0 x6_1) == 9) = true := beq_iff_eq.mpr c8
                have c8b1 : ((bt a0 x6_1) != 9) = false := bne_eq_false_iff_eq.mpr c8
                clear c8
                have H' := Aside0.mk H
                clear H
                have p5 : 0 ≤ (x6_1 : Int) := of_decide_eq_true (by first | (with_reducible assumption) | assumption)
                have q5 : x6_1 < (a0.size : Int) := of_decide_eq_true (by first | (with_reducible assumption) | assumption)
                have hx5 := bt_at a0 x6_1
                replace p5 := eq_true p5
                replace q5 := eq_true q5
                have p7 : 0 ≤ (x6_1 : Int) := of_decide_eq_true (by first | (with_reducible assumption) | assumption)
                have q7 : x6_1 < (a0.size : Int) := of_decide_eq_true (by first | (with_reducible assumption) | assumption)
                have hx7 := bt_at a0 x6_1
                replace p7 := eq_true p7
                replace q7 := eq_true q7
                go_wp2
                go_meet
                case rel => exact ⟨_, (true), (by first | rfl | (simp; done) | (simp [*]; done) | (simp [Go.Proofs.YtngeelpfbajppaaDoor.Bs.isEmpty_bne, Go.Proofs.YtngeelpfbajppaaDoor.Bs.isEmpty_beq]; done)), H', ⟨by have := HK1.out; first | omega | exact Nat.le_refl _⟩, ⟨by (with_reducible repeat (first | apply Kd.R_alloc | apply Kd.R_drewN | apply Kd.R_drew)); exact HO_5.out⟩, ⟨by repeat (first | (with_reducible first | exact HB.out | apply below_alloc | apply pw_below_drewN | apply below_drew1) | exact HB.out)⟩⟩
              · rw [if_neg c8] at H
                have c8b0 : ((bt a0 x6_1) == 9) = false := beq_eq_false_iff_ne.mpr c8
                have c8b1 : ((bt a0 x6_1) != 9) = true := bne_iff_ne.mpr c8
                have H' := Aside0.mk H
                clear H
                have p5 : 0 ≤ (x6_1 : Int) := of_decide_eq_true (by first | (with_reducible assumption) | assumption)
                have q5 : x6_1 < (a0.size : Int) := of_decide_eq_true (by first | (with_reducible assumption) | assumption)
                have hx5 := bt_at a0 x6_1
                replace p5 := eq_true p5
                replace q5 := eq_true q5
                have p7 : 0 ≤ (x6_1 : Int) := of_decide_eq_true (by first | (with_reducible assumption) | assumption)
                have q7 : x6_1 < (a0.size : Int) := of_decide_eq_true (by first | (with_reducible assumption) | assumption)
                have hx7 := bt_at a0 x6_1
                replace p7 := eq_true p7
                replace q7 := eq_true q7
                have p9 : 0 ≤ (x6_1 : Int) := of_decide_eq_true (by first | (with_reducible assumption) | assumption)
                have q9 : x6_1 < (a0.size : Int) := of_decide_eq_true (by first | (with_reducible assumption) | assumption)
                have hx9 := bt_at a0 x6_1
                replace p9 := eq_true p9
                replace q9 := eq_true q9
                go_wp2
                go_meet
                case rel => exact ⟨_, (((bt a0 x6_1) == 10)), (by first | rfl | (simp; done) | (simp [*]; done) | (simp [Go.Proofs.YtngeelpfbajppaaDoor.Bs.isEmpty_bne, Go.Proofs.YtngeelpfbajppaaDoor.Bs.isEmpty_beq]; done)), H', ⟨by have := HK1.out; first | omega | exact Nat.le_refl _⟩, ⟨by (with_reducible repeat (first | apply Kd.R_alloc | apply Kd.R_drewN | apply Kd.R_drew)); exact HO_5.out⟩, ⟨by repeat (first | (with_reducible first | exact HB.out | apply below_alloc | apply pw_below_drewN | apply below_drew1) | exact HB.out)⟩⟩
          · rw [if_neg c4] at H
            exact absurd H (by simp)
        case rest =>
          clear HC3
          try clear c2
          try clear c2b0
          try clear p2
          try clear c4
          try clear c4b0
          try clear p5
          try clear q5
          try clear hx5
          try clear c6
          try clear c6b0
          try clear c6b1
          try clear p7
          try clear q7
          try clear hx7
          try clear c8
          try clear c8b0
          try clear c8b1
          try clear c9
          try clear p9
          try clear q9
          try clear hx9
          try clear p5
          try clear p7
          try clear p9
          try clear q5
          try clear q7
          try clear q9
          obtain ⟨kq, x28_2, rfl, HA, HJ2, HO_5, HB⟩ := hcut
          cases kq with
          | zero => exact absurd HA.out (by simp [instarref08_Words.j1])
          | succ kj2 =>
            have H := HA.out
            clear HA
            simp only [instarref08_Words.j1] at H
            by_cases c10 : x28_2 = true
            · subst c10
              have H1 : (instarref08_Words.l0 kj2 a0 x5_1 (wrap64 (x6_1 + 1))) = some (r1, r2, r3) := by rw [if_pos rfl] at H; exact H
              clear H
              have H := H1
              clear H1
              have H' := Aside0.mk H
              clear H
              go_wp2
              go_roundg kj2
              case measure => have := HK1.out; have := HJ2.out; omega
              case rel => exact ⟨(x5_1), (wrap64 (x6_1 + 1)), (by first | rfl | (simp; done) | (simp [*]; done) | (simp [Go.Proofs.YtngeelpfbajppaaDoor.Bs.isEmpty_bne, Go.Proofs.YtngeelpfbajppaaDoor.Bs.isEmpty_beq]; done)), H', ⟨by have := HK1.out; have := HJ2.out; omega⟩, ⟨by (with_reducible repeat (first | apply Kd.R_alloc | apply Kd.R_drewN | apply Kd.R_drew)); exact HO_5.out⟩, ⟨by repeat (first | (with_reducible first | exact HB.out | apply below_alloc | apply pw_below_drewN | apply below_drew1) | exact HB.out)⟩⟩
            · replace c10 := Bool.eq_false_iff.mpr c10
              subst c10
              have H1 : (if 0 ≤ x6_1 then (if x6_1 ≤ (a0.size : Int) then ((instarref08_one.f kj2 (a0.extract (x6_1 : Int).toNat a0.size)).bind fun bt101 => (if bt101.2.2.2 = 0 then (some (([] : List (S44)), x6_1, 81)) else (if x5_1.length < 4398046511104 then (instarref08_Words.l0 kj2 a0 (x5_1 ++ [(⟨bt101.1, bt101.2.1, x6_1⟩ : S44)]) (wrap64 (x6_1 + bt101.2.2.2))) else (none)))) else (none)) else (none)) = some (r1, r2, r3) := by rw [if_neg (show ¬ (false = true) by decide)] at H; exact H
              clear H
              have H := H1
              clear H1
              by_cases c11 : 0 ≤ x6_1
              · rw [if_pos c11] at H
                have c11b0 := eq_true c11
                have c11b1 : decide (0 ≤ x6_1) = true := decide_eq_true c11
                clear c11
                by_cases c12 : x6_1 ≤ (a0.size : Int)
                · rw [if_pos c12] at H
                  have c12b0 := eq_true c12
                  have c12b1 : decide (x6_1 ≤ (a0.size : Int)) = true := decide_eq_true c12
                  clear c12
                  replace H := Option.bind_eq_some_iff.mp H
                  obtain ⟨⟨t101, t102, t103, t104⟩, A130, H⟩ := H
                  replace H : (if t104 = 0 then (some (([] : List (S44)), x6_1, 81)) else (if x5_1.length < 4398046511104 then (instarref08_Words.l0 kj2 a0 (x5_1 ++ [(⟨t101, t102, x6_1⟩ : S44)]) (wrap64 (x6_1 + t104))) else (none))) = some (r1, r2, r3) := H
                  have A13 := Aside0.mk A130
                  clear A130
                  by_cases c14 : t104 = 0
                  · rw [if_pos c14] at H
                    have c14b0 : (t104 == 0) = true := beq_iff_eq.mpr c14
                    have c14b1 : (t104 != 0) = false := bne_eq_false_iff_eq.mpr c14
                    clear c14
                    simp only [Option.some.injEq, Prod.mk.injEq] at H
                    obtain ⟨rfl, rfl, rfl⟩ := H
                    go_wp2_with (first | ((with_reducible refine gate_callee (f := 18) rfl ?_); refine goesL_ (some 35) rfl rfl Tryd.func18 (by kernel_rfl) rfl #[.string (a0.extract (x6_1 : Int).toNat a0.size)] rfl (by (try simp only [List.map_toArray, List.map_cons, List.map_nil]); first | done | rfl | (simp only [List.length_drop, List.length_take]; rfl)) ?_; (with_reducible refine (instarref08_one.calls kj2 (a0.extract (x6_1 : Int).toNat a0.size) t101 t102 t103 t104 _ A13.out).mono ?_); rintro e w15 ⟨rfl, hb⟩; refine ⟨_, rfl, ?_⟩; have n0_ := Aside0.mk (Kd.R_below (by (with_reducible repeat (first | apply Kd.R_alloc | apply Kd.R_drewN | apply Kd.R_drew)); exact HO_5.out) hb); have n1_ := Aside0.mk (below_step (by repeat (first | (with_reducible first | exact HB.out | apply below_alloc | apply pw_below_drewN | apply below_drew1) | exact HB.out)) hb); clear HO_5; clear HB; have HO_5 := n0_; have HB := n1_; clear n0_ n1_; (try clear hb); (try clear hb2); (try clear hk); (try clear hi)) | ((with_reducible refine gate_dst (N := 7) rfl ?_); refine box_event ?hg (N := 7) ?hd (cs := #[.int .i64 0, .string (⟨#[]⟩ : ByteArray), .int .i64 0]) (t := 44) ?hr ?_; (case hd => rfl); (case hg => rfl); (case hr => first | (go_simp; done) | (go_simp; rfl)); intro gb105 hg w16 hbox hb; have n0_ := Aside0.mk (Kd.R_below (Kd.R_elderB (by (with_reducible repeat (first | apply Kd.R_alloc | apply Kd.R_drewN | apply Kd.R_drew)); exact HO_5.out) gb105 (Nat.le_of_eq hg.symm)) hb); have n1_ := Aside0.mk (below_step (by repeat (first | (with_reducible first | exact HB.out | apply below_alloc | apply pw_below_drewN | apply below_drew1) | exact HB.out)) hb); have n2_ := Aside0.mk (hbox); have n3_ := Aside0.mk ((by rw [hg]; exact (below_size (by repeat (first | (with_reducible first | exact HB.out | apply below_alloc | apply pw_below_drewN | apply below_drew1) | exact HB.out))) : w.heap.size ≤ gb105)); have n4_ := Aside0.mk ((by rw [hg]; exact (below_size (by repeat (first | (with_reducible first | exact HB.out | apply below_alloc | apply pw_below_drewN | apply below_drew1) | exact HB.out))) : w.heap.size ≤ gb105)); clear HO_5; clear HB; have HO_5 := n0_; have HB := n1_; have BK105 := n2_; have GW105 := n3_; have GE105 := n4_; clear n0_ n1_ n2_ n3_ n4_; clear hb hbox hg; have hcz17_0 : w16.cell? ⟨gb105, 0, none⟩ = some (.int .i64 0) := (blk_cell BK105.out 0).trans rfl; have hcz17_1 : w16.cell? ⟨gb105, 1, none⟩ = some (.string (⟨#[]⟩ : ByteArray)) := (blk_cell BK105.out 1).trans rfl; have hcz17_2 : w16.cell? ⟨gb105, 2, none⟩ = some (.int .i64 0) := (blk_cell BK105.out 2).trans rfl; have hfz17_0 := blk_frozen BK105.out 0; have hfz17_1 := blk_frozen BK105.out 1; have hfz17_2 := blk_frozen BK105.out 2))
                    go_ret3
                    exact ⟨_, by first | rfl | (simp [errW_none, errW_some] <;> rfl) | (simp [*, errW_none, errW_some] <;> rfl), by first | exact Kd.R_nil _ _ _ _ _ | exact Kd.N_nil _ _ _ _ _ | exact Kd.V_nil _ _ _ _ _ | exact Kd.Q_nil _ _ _ _ _ | exact Kd.S_nil _ _ _ _ _, by repeat (first | (with_reducible first | exact HB.out | apply below_alloc | apply pw_below_drewN | apply below_drew1 | refine below_set ?_ GE105.out) | exact HB.out)⟩
                  · rw [if_neg c14] at H
                    have c14b0 : (t104 == 0) = false := beq_eq_false_iff_ne.mpr c14
                    have c14b1 : (t104 != 0) = true := bne_iff_ne.mpr c14
                    by_cases c18 : x5_1.length < 4398046511104
                    · rw [if_pos c18] at H
                      have LMc18 := Aside0.mk c18
                      clear c18
                      obtain ⟨y106, hy106⟩ : ∃ y_ : List (S44), y_ = (x5_1 ++ [(⟨t101, t102, x6_1⟩ : S44)]) := ⟨_, rfl⟩
                      replace H : (instarref08_Words.l0 kj2 a0 y106 (wrap64 (x6_1 + t104))) = some (r1, r2, r3) := by first | (rw [hy106]; with_reducible exact H) | (have H2_ := (Option.bind_some _ _).symm.trans H; rw [hy106]; with_reducible exact H2_) | (have H2_ := (Option.bind_some _ _).symm.trans H; with_reducible exact H2_) | with_reducible exact H | (rw [hy106]; exact H) | exact H
                      have Ny106 := Aside0.mk hy106
                      clear hy106
                      have H' := Aside0.mk H
                      clear H
                      go_wp2_with (first | ((with_reducible refine gate_callee (f := 18) rfl ?_); refine goesL_ (some 35) rfl rfl Tryd.func18 (by kernel_rfl) rfl #[.string (a0.extract (x6_1 : Int).toNat a0.size)] rfl (by (try simp only [List.map_toArray, List.map_cons, List.map_nil]); first | done | rfl | (simp only [List.length_drop, List.length_take]; rfl)) ?_; (with_reducible refine (instarref08_one.calls kj2 (a0.extract (x6_1 : Int).toNat a0.size) t101 t102 t103 t104 _ A13.out).mono ?_); rintro e w19 ⟨rfl, hb⟩; refine ⟨_, rfl, ?_⟩; have n0_ := Aside0.mk (Kd.R_below (by (with_reducible repeat (first | apply Kd.R_alloc | apply Kd.R_drewN | apply Kd.R_drew)); exact HO_5.out) hb); have n1_ := Aside0.mk (below_step (by repeat (first | (with_reducible first | exact HB.out | apply below_alloc | apply pw_below_drewN | apply below_drew1) | exact HB.out)) hb); clear HO_5; clear HB; have HO_5 := n0_; have HB := n1_; clear n0_ n1_; (try clear hb); (try clear hb2); (try clear hk); (try clear hi)) | ((with_reducible refine gate_dst (N := 7) rfl ?_); refine box_event ?hg (N := 7) ?hd (cs := #[.int .i64 0, .string (⟨#[]⟩ : ByteArray), .int .i64 0]) (t := 44) ?hr ?_; (case hd => rfl); (case hg => rfl); (case hr => first | (go_simp; done) | (go_simp; rfl)); intro gb105 hg w20 hbox hb; have n0_ := Aside0.mk (Kd.R_below (Kd.R_elderB (by (with_reducible repeat (first | apply Kd.R_alloc | apply Kd.R_drewN | apply Kd.R_drew)); exact HO_5.out) gb105 (Nat.le_of_eq hg.symm)) hb); have n1_ := Aside0.mk (below_step (by repeat (first | (with_reducible first | exact HB.out | apply below_alloc | apply pw_below_drewN | apply below_drew1) | exact HB.out)) hb); have n2_ := Aside0.mk (hbox); have n3_ := Aside0.mk ((by rw [hg]; exact (below_size (by repeat (first | (with_reducible first | exact HB.out | apply below_alloc | apply pw_below_drewN | apply below_drew1) | exact HB.out))) : w.heap.size ≤ gb105)); have n4_ := Aside0.mk ((by rw [hg]; exact (below_size (by repeat (first | (with_reducible first | exact HB.out | apply below_alloc | apply pw_below_drewN | apply below_drew1) | exact HB.out))) : w.heap.size ≤ gb105)); clear HO_5; clear HB; have HO_5 := n0_; have HB := n1_; have BK105 := n2_; have GW105 := n3_; have GE105 := n4_; clear n0_ n1_ n2_ n3_ n4_; clear hb hbox hg; have hcz21_0 : w20.cell? ⟨gb105, 0, none⟩ = some (.int .i64 0) := (blk_cell BK105.out 0).trans rfl; have hcz21_1 : w20.cell? ⟨gb105, 1, none⟩ = some (.string (⟨#[]⟩ : ByteArray)) := (blk_cell BK105.out 1).trans rfl; have hcz21_2 : w20.cell? ⟨gb105, 2, none⟩ = some (.int .i64 0) := (blk_cell BK105.out 2).trans rfl; have hfz21_0 := blk_frozen BK105.out 0; have hfz21_1 := blk_frozen BK105.out 1; have hfz21_2 := blk_frozen BK105.out 2) | ((with_reducible refine gate_builtin (b := .append) (xs := #[.tmp 43, .tmp 45]) rfl ?_); at_builtin; refine Kd.R_append k44 (w0 := w) w.heap.size rfl (.tmp 43) (.tmp 45) 27 44 (.agg #[(.int .i64 0), (.string ⟨#[]⟩), (.int .i64 0)]) 32 rfl Tryd.underlying27 info44 rfl (by decide) (by omega) u5 x5_1 (⟨t101, t102, x6_1⟩ : S44) [.int .i64 t101, .string t102, .int .i64 x6_1] (fun k_ => k_ ≠ gb105) (fun _ => False) rfl (by first | (go_simp; done) | (go_simp; rfl)) ?aP (fun _ hk => hk.elim) ?aF ?aO ?aB ?aS ?aL ?_; (case aP => exact k44_mkM _ _ _ (⟨t101, t102, x6_1⟩ : S44)); (case aB => exact (by repeat (first | (with_reducible first | exact HB.out | apply below_alloc | apply pw_below_drewN | apply below_drew1 | refine below_set ?_ GE105.out) | exact HB.out))); (case aF => exact (fun k_ hk => Kd.freshB (g := gb105) (o := .cells #[.int .i64 t101, .string t102, .int .i64 x6_1] 44 (0, 0)) (by (with_reducible repeat (first | refine blk_drewN ?_ _ | refine blk_drew ?_ | refine blk_alloc ?_ _)); refine blk_put (cs := #[.int .i64 t101, .string t102, .int .i64 t103]) ?_ 2 _ rfl; (with_reducible repeat (first | refine blk_drewN ?_ _ | refine blk_drew ?_ | refine blk_alloc ?_ _)); refine blk_put (cs := #[.int .i64 t101, .string t102, .int .i64 0]) ?_ 2 _ rfl; (with_reducible repeat (first | refine blk_drewN ?_ _ | refine blk_drew ?_ | refine blk_alloc ?_ _)); refine blk_put (cs := #[.int .i64 t101, .string (⟨#[]⟩ : ByteArray), .int .i64 0]) ?_ 1 _ rfl; (with_reducible repeat (first | refine blk_drewN ?_ _ | refine blk_drew ?_ | refine blk_alloc ?_ _)); refine blk_put (cs := #[.int .i64 0, .string (⟨#[]⟩ : ByteArray), .int .i64 0]) ?_ 0 _ rfl; (with_reducible repeat (first | refine blk_drewN ?_ _ | refine blk_drew ?_ | refine blk_alloc ?_ _)); exact BK105.out) k_ hk)); (case aO => exact (by (with_reducible repeat (first | apply Kd.R_alloc | apply Kd.R_drewN | apply Kd.R_drew)); exact Kd.R_mono (Kd.R_far (p := ⟨gb105, 2, none⟩) (Kd.R_far (p := ⟨gb105, 2, none⟩) (Kd.R_far (p := ⟨gb105, 1, none⟩) (Kd.R_far (p := ⟨gb105, 0, none⟩) (Kd.R_mono HO_5.out (fun k_ hk => (⟨hk, hk.2⟩ : _ ∧ k_ ≠ gb105))) (fun _ hk => hk.2) (.int .i64 t101)) (fun _ hk => hk.2) (.string t102)) (fun _ hk => hk.2) (.int .i64 t103)) (fun _ hk => hk.2) (.int .i64 x6_1)) (fun _ hk => hk.1.2))); (case aS => exact (below_size (by repeat (first | (with_reducible first | exact HB.out | apply below_alloc | apply pw_below_drewN | apply below_drew1 | refine below_set ?_ GE105.out) | exact HB.out)))); (case aL => have := LMc18.out; omega); intro v107 w22 ho hb hg hat; rw [← Ny106.out] at ho; have n0_ := Aside0.mk (blk_grown (g := gb105) (o := .cells #[.int .i64 t101, .string t102, .int .i64 x6_1] 44 (0, 0)) (by (with_reducible repeat (first | refine blk_drewN ?_ _ | refine blk_drew ?_ | refine blk_alloc ?_ _)); refine blk_put (cs := #[.int .i64 t101, .string t102, .int .i64 t103]) ?_ 2 _ rfl; (with_reducible repeat (first | refine blk_drewN ?_ _ | refine blk_drew ?_ | refine blk_alloc ?_ _)); refine blk_put (cs := #[.int .i64 t101, .string t102, .int .i64 0]) ?_ 2 _ rfl; (with_reducible repeat (first | refine blk_drewN ?_ _ | refine blk_drew ?_ | refine blk_alloc ?_ _)); refine blk_put (cs := #[.int .i64 t101, .string (⟨#[]⟩ : ByteArray), .int .i64 0]) ?_ 1 _ rfl; (with_reducible repeat (first | refine blk_drewN ?_ _ | refine blk_drew ?_ | refine blk_alloc ?_ _)); refine blk_put (cs := #[.int .i64 0, .string (⟨#[]⟩ : ByteArray), .int .i64 0]) ?_ 0 _ rfl; (with_reducible repeat (first | refine blk_drewN ?_ _ | refine blk_drew ?_ | refine blk_alloc ?_ _)); exact BK105.out) hg (Kd.R_away HO_5.out (fun _ hk => hk.2))); have n1_ := Aside0.mk (hb); have n2_ := Aside0.mk (ho); clear BK105; clear HB; clear HO_5; have BK105 := n0_; have HB := n1_; have HO108 := n2_; clear n0_ n1_ n2_; clear ho hb hg hat))
                      go_roundg kj2
                      case measure => have := HK1.out; have := HJ2.out; omega
                      case rel => exact ⟨(y106), (wrap64 (x6_1 + t104)), (by first | rfl | (simp; done) | (simp [*]; done) | (simp [Go.Proofs.YtngeelpfbajppaaDoor.Bs.isEmpty_bne, Go.Proofs.YtngeelpfbajppaaDoor.Bs.isEmpty_beq]; done)), H', ⟨by have := HK1.out; have := HJ2.out; omega⟩, ⟨by (with_reducible repeat (first | apply Kd.R_alloc | apply Kd.R_drewN | apply Kd.R_drew)); exact Kd.R_mono HO108.out (fun _ hk => trivial)⟩, ⟨by repeat (first | (with_reducible first | exact HB.out | apply below_alloc | apply pw_below_drewN | apply below_drew1 | refine below_set ?_ GE105.out) | exact HB.out)⟩⟩
                    · rw [if_neg c18] at H
                      exact absurd H (by simp)
                · rw [if_neg c12] at H
                  exact absurd H (by simp)
              · rw [if_neg c11] at H
                exact absurd H (by simp)
      · rw [if_neg c2] at H
        have c2b0 : decide (x6_1 < (a0.size : Int)) = false := decide_eq_false c2
        clear c2
        simp only [Option.some.injEq, Prod.mk.injEq] at H
        obtain ⟨rfl, rfl, rfl⟩ := H
        go_wp2
        go_ret3
        exact ⟨_, by first | rfl | (simp [errW_none, errW_some] <;> rfl) | (simp [*, errW_none, errW_some] <;> rfl), by (with_reducible repeat (first | apply Kd.R_alloc | apply Kd.R_drewN | apply Kd.R_drew)); exact HO_5.out, by repeat (first | (with_reducible first | exact HB.out | apply below_alloc | apply pw_below_drewN | apply below_drew1) | exact HB.out)⟩
def instarlaw08_To.l0 : Nat → List (S35) → List (S44) → Int → Option ((List (S44)))
  | 0, _, _, _ => none
  | k + 1, x0, x3, x4 => if x4 < (x0.length : Int) then (if 0 ≤ x4 then (if x3.length < 4398046511104 then (instarlaw08_To.l0 k x0 (x3 ++ [(⟨(rd_T35 x0 x4).f0, (rd_T35 x0 x4).f1, (rd_T35 x0 x4).f2⟩ : S44)]) (wrap64 (x4 + 1))) else (none)) else (none)) else (some x3)
def instarlaw08_To.f (k : Nat) (l0 : List (S35)) : Option ((List (S44))) := instarlaw08_To.l0 k l0 ([] : List (S44)) 0
theorem instarlaw08_To.mono_l : ∀ k, (∀ y0 y1 y2, LeO (instarlaw08_To.l0 k y0 y1 y2) (instarlaw08_To.l0 (k + 1) y0 y1 y2))
  | 0 => fun _ _ _ r h => by simp [instarlaw08_To.l0] at h
  | k + 1 => by
    have ih0 := instarlaw08_To.mono_l k
    · intro y0 y1 y2
      unfold instarlaw08_To.l0
      repeat' first
      | (with_reducible exact ih0 _ _ _)
      | (with_reducible exact LeO.refl _)
      | (with_reducible exact LeO.none _)
      | (with_reducible refine LeO.ite ?_ ?_)
      | (with_reducible refine LeO.bind ?_ (fun _ => ?_))
      | exact ih0 _ _ _
      | exact LeO.none _
      | refine LeO.ite ?_ ?_
      | refine LeO.bind ?_ (fun _ => ?_)
theorem instarlaw08_To.mono : ∀ a0 k, LeO (instarlaw08_To.f k a0) (instarlaw08_To.f (k + 1) a0) := by
  intro a0 k
  have ih0 := instarlaw08_To.mono_l k
  unfold instarlaw08_To.f
  repeat' first
      | (with_reducible exact ih0 _ _ _)
      | (with_reducible exact LeO.refl _)
      | (with_reducible exact LeO.none _)
      | (with_reducible refine LeO.ite ?_ ?_)
      | (with_reducible refine LeO.bind ?_ (fun _ => ?_))
      | exact ih0 _ _ _
      | exact LeO.none _
      | refine LeO.ite ?_ ?_
      | refine LeO.bind ?_ (fun _ => ?_)
def instarlaw08_To.T5 : Bool × List (List Nat × List Nat) := (true, [([], []), ([], []), ([], []), ([1, 2], [1, 2]), ([3], [3]), ([4], [4]), ([], []), ([], []), ([6, 7], [6, 7]), ([8], [8]), ([9], [9]), ([], []), ([], []), ([11, 12], [11, 12]), ([13], [13]), ([14], [14]), ([5, 10, 15], [5, 10, 15]), ([16], [16]), ([0, 17], [0, 17]), ([18, 18, 0, 1, 2, 3, 4, 5, 6, 7, 8, 9, 10, 11, 12, 13, 14, 15, 16, 17, 18], [0, 18])])
def instarlaw08_To.B5 : List Nat := [0, 0, 0, 6, 14, 30, 0, 0, 192, 448, 960, 0, 0, 6144, 14336, 30720, 65534, 131070, 262143, 524287]
theorem instarlaw08_To.tab5 : rtab .any (opsOf Tryd.f11 5) = instarlaw08_To.T5 := by kernel_rfl
theorem instarlaw08_To.bits5 : waitsOk instarlaw08_To.T5.2 instarlaw08_To.B5 = true := by kernel_rfl
set_option maxHeartbeats 8000000 in
set_option maxRecDepth 100000 in
theorem instarlaw08_To.calls (k : Nat) (A0 : Option Addr) (c0 : Nat) (l0 : List (S35)) (r : List (S44)) (w : World) (hr0 : Kd.C k35 w A0 l0.length l0) (hc0 : l0.length ≤ c0) (h : instarlaw08_To.f k l0 = some r) :
    Calls Tryd.prog 11 #[.slice A0 l0.length c0] w fun e w' => ∃ v0_ : Value, e = .returned (v0_) ∧ Kd.R k44 44 w' w.heap.size (fun _ => True) v0_ r ∧ Below w.heap.size w w' := by
  have hu44 := Tryd.underlying44
  have HR0 := Aside0.mk hr0
  have HC0 := Aside0.mk hc0
  clear hr0 hc0
  have HB := Aside0.mk (Below.refl w.heap.size w)
  have H : (instarlaw08_To.l0 k l0 ([] : List (S44)) 0) = some r := h
  clear h
  have H' := Aside0.mk H
  clear H
  go_enter Tryd.func11, Tryd.ntmps11
  go_wp2
  go_loopg [3, 4] k (fun kq v3 v4 w' => ∃ (x3_1 : List (S44)) (x4_1 : Int), v4 = .int .i64 x4_1 ∧ Aside0 (instarlaw08_To.l0 kq l0 x3_1 x4_1 = some r) ∧ Aside0 (kq ≤ k) ∧ Aside0 (Kd.R k44 44 w' w.heap.size (fun _ => True) v3 x3_1) ∧ Aside0 (Below w.heap.size w w'))
  case atStart => exact ⟨(([] : List (S44))), (0), (by first | rfl | (simp; done) | (simp [*]; done) | (simp [Go.Proofs.YtngeelpfbajppaaDoor.Bs.isEmpty_bne, Go.Proofs.YtngeelpfbajppaaDoor.Bs.isEmpty_beq]; done)), H', ⟨Nat.le_refl _⟩, ⟨by first | exact Kd.R_nil _ _ _ _ _ | exact Kd.N_nil _ _ _ _ _ | exact Kd.V_nil _ _ _ _ _ | exact Kd.Q_nil _ _ _ _ _ | exact Kd.S_nil _ _ _ _ _⟩, ⟨by repeat (first | (with_reducible first | exact HB.out | apply below_alloc | apply pw_below_drewN | apply below_drew1) | exact HB.out)⟩⟩
  case round =>
    clear H'
    try clear c1
    obtain ⟨x3_1, x4_1, rfl, HA, HK1, HO_3, HB⟩ := hrel
    cases gk with
    | zero => exact absurd HA.out (by simp [instarlaw08_To.l0])
    | succ k1 =>
      have H := HA.out
      clear HA
      simp only [instarlaw08_To.l0] at H
      by_cases c2 : x4_1 < (l0.length : Int)
      · rw [if_pos c2] at H
        have c2b0 : decide (x4_1 < (l0.length : Int)) = true := decide_eq_true c2
        clear c2
        by_cases c3 : 0 ≤ x4_1
        · rw [if_pos c3] at H
          have c3b0 : decide (0 ≤ x4_1) = true := decide_eq_true c3
          clear c3
          by_cases c4 : x3_1.length < 4398046511104
          · rw [if_pos c4] at H
            have LMc4 := Aside0.mk c4
            clear c4
            obtain ⟨y104, hy104⟩ : ∃ y_ : List (S44), y_ = (x3_1 ++ [(⟨(rd_T35 l0 x4_1).f0, (rd_T35 l0 x4_1).f1, (rd_T35 l0 x4_1).f2⟩ : S44)]) := ⟨_, rfl⟩
            replace H : (instarlaw08_To.l0 k1 l0 y104 (wrap64 (x4_1 + 1))) = some r := by first | (rw [hy104]; with_reducible exact H) | (have H2_ := (Option.bind_some _ _).symm.trans H; rw [hy104]; with_reducible exact H2_) | (have H2_ := (Option.bind_some _ _).symm.trans H; with_reducible exact H2_) | with_reducible exact H | (rw [hy104]; exact H) | exact H
            have Ny104 := Aside0.mk hy104
            clear hy104
            have H' := Aside0.mk H
            clear H
            try go_wp2
            have n0_ := Aside0.mk (Kd.R_drew HO_3.out)
            have n1_ := Aside0.mk (below_drew1 HB.out)
            clear HO_3
            clear HB
            have HO_3 := n0_
            have HB := n1_
            clear n0_ n1_
            have p101 : 0 ≤ (x4_1 : Int) := of_decide_eq_true (by first | (with_reducible assumption) | assumption)
            have q101 : x4_1 < (l0.length : Int) := of_decide_eq_true (by first | (with_reducible assumption) | assumption)
            obtain ⟨ad101, e101, hx101_0, hx101_1, hx101_2⟩ := at_T35 HR0.out x4_1 p101 q101
            have hw101_2 := hx101_2
            have hw101_1 := hx101_1
            have hw101_0 := hx101_0
            cases e101
            replace hx101_0 := (HB.out.cell (World.block_lt_of_cell? w _ hx101_0)).trans hx101_0
            replace hx101_1 := (HB.out.cell (World.block_lt_of_cell? w _ hx101_1)).trans hx101_1
            replace hx101_2 := (HB.out.cell (World.block_lt_of_cell? w _ hx101_2)).trans hx101_2
            replace p101 := eq_true p101
            replace q101 := eq_true q101
            have p102 : 0 ≤ (x4_1 : Int) := of_decide_eq_true (by first | (with_reducible assumption) | assumption)
            have q102 : x4_1 < (l0.length : Int) := of_decide_eq_true (by first | (with_reducible assumption) | assumption)
            obtain ⟨ad102, e102, hx102_0, hx102_1, hx102_2⟩ := at_T35 HR0.out x4_1 p102 q102
            have hw102_2 := hx102_2
            have hw102_1 := hx102_1
            have hw102_0 := hx102_0
            obtain rfl : ad101 = ad102 := (by injection e102)
            replace hx102_0 := (HB.out.cell (World.block_lt_of_cell? w _ hx102_0)).trans hx102_0
            replace hx102_1 := (HB.out.cell (World.block_lt_of_cell? w _ hx102_1)).trans hx102_1
            replace hx102_2 := (HB.out.cell (World.block_lt_of_cell? w _ hx102_2)).trans hx102_2
            replace p102 := eq_true p102
            replace q102 := eq_true q102
            have p103 : 0 ≤ (x4_1 : Int) := of_decide_eq_true (by first | (with_reducible assumption) | assumption)
            have q103 : x4_1 < (l0.length : Int) := of_decide_eq_true (by first | (with_reducible assumption) | assumption)
            obtain ⟨ad103, e103, hx103_0, hx103_1, hx103_2⟩ := at_T35 HR0.out x4_1 p103 q103
            have hw103_2 := hx103_2
            have hw103_1 := hx103_1
            have hw103_0 := hx103_0
            obtain rfl : ad101 = ad103 := (by injection e103)
            replace hx103_0 := (HB.out.cell (World.block_lt_of_cell? w _ hx103_0)).trans hx103_0
            replace hx103_1 := (HB.out.cell (World.block_lt_of_cell? w _ hx103_1)).trans hx103_1
            replace hx103_2 := (HB.out.cell (World.block_lt_of_cell? w _ hx103_2)).trans hx103_2
            replace p103 := eq_true p103
            replace q103 := eq_true q103
            refine start_ (n := 20) (S := fun w' => w'.cell? (ad101.add ((x4_1).toNat * 3)) = some (.int .i64 ((rd_T35 l0 x4_1).f0)) ∧ w'.cell? ⟨(ad101.add ((x4_1).toNat * 3)).block, (ad101.add ((x4_1).toNat * 3)).off + 1, none⟩ = some (.string ((rd_T35 l0 x4_1).f1)) ∧ w'.cell? ⟨(ad101.add ((x4_1).toNat * 3)).block, (ad101.add ((x4_1).toNat * 3)).off + 2, none⟩ = some (.int .i64 ((rd_T35 l0 x4_1).f2)) ∧ w'.cell? (ad101.add ((x4_1).toNat * 3)) = some (.int .i64 ((rd_T35 l0 x4_1).f0)) ∧ w'.cell? ⟨(ad101.add ((x4_1).toNat * 3)).block, (ad101.add ((x4_1).toNat * 3)).off + 1, none⟩ = some (.string ((rd_T35 l0 x4_1).f1)) ∧ w'.cell? ⟨(ad101.add ((x4_1).toNat * 3)).block, (ad101.add ((x4_1).toNat * 3)).off + 2, none⟩ = some (.int .i64 ((rd_T35 l0 x4_1).f2)) ∧ w'.cell? (ad101.add ((x4_1).toNat * 3)) = some (.int .i64 ((rd_T35 l0 x4_1).f0)) ∧ w'.cell? ⟨(ad101.add ((x4_1).toNat * 3)).block, (ad101.add ((x4_1).toNat * 3)).off + 1, none⟩ = some (.string ((rd_T35 l0 x4_1).f1)) ∧ w'.cell? ⟨(ad101.add ((x4_1).toNat * 3)).block, (ad101.add ((x4_1).toNat * 3)).off + 2, none⟩ = some (.int .i64 ((rd_T35 l0 x4_1).f2))) (ds := []) #[false, false, false, false, false, false, false, false, false, false, false, false, false, false, false, false, false, false, false, false] (by kernel_rfl) rfl rfl ⟨((HB.out.cell (World.block_lt_of_cell? w _ hw101_0)).trans hw101_0), ((HB.out.cell (World.block_lt_of_cell? w _ hw101_1)).trans hw101_1), ((HB.out.cell (World.block_lt_of_cell? w _ hw101_2)).trans hw101_2), ((HB.out.cell (World.block_lt_of_cell? w _ hw102_0)).trans hw102_0), ((HB.out.cell (World.block_lt_of_cell? w _ hw102_1)).trans hw102_1), ((HB.out.cell (World.block_lt_of_cell? w _ hw102_2)).trans hw102_2), ((HB.out.cell (World.block_lt_of_cell? w _ hw103_0)).trans hw103_0), ((HB.out.cell (World.block_lt_of_cell? w _ hw103_1)).trans hw103_1), ((HB.out.cell (World.block_lt_of_cell? w _ hw103_2)).trans hw103_2)⟩ (fun hHeld => ?_); refine with_tabW instarlaw08_To.tab5 instarlaw08_To.bits5 (fun HT_ HW_ => ?_)
            generalize wr.drew = w5 at HO_3 HB hx101_0 hx101_1 hx101_2 hx102_0 hx102_1 hx102_2 hx103_0 hx103_1 hx103_2 hHeld ⊢
            refine pure_ (i := 0) (N := some 11) (v := ?_) (a' := ?_) #[true, false, false, false, false, false, false, false, false, false, false, false, false, false, false, false, false, false, false, false] rfl rfl (any_of HT_.out (by kernel_rfl)) (fun _ _ _ h => h) (Or.inl ⟨by rfl, ?_⟩) ?_ ?_
            rotate_left
            · intro w'
              go_simp
              with_reducible rfl
            rotate_left
            · simp only [Act.put, List.setIfInBounds_toArray, List.set_cons_zero, List.set_cons_succ, i64_w, i32_w]
              rfl
            refine pure_ (i := 1) (N := some 12) (v := ?_) (a' := ?_) #[true, true, false, false, false, false, false, false, false, false, false, false, false, false, false, false, false, false, false, false] rfl rfl (any_of HT_.out (by kernel_rfl)) (fun _ _ _ h => h) (Or.inl ⟨by rfl, ?_⟩) ?_ ?_
            rotate_left
            · intro w'
              go_simp
              with_reducible rfl
            rotate_left
            · simp only [Act.put, List.setIfInBounds_toArray, List.set_cons_zero, List.set_cons_succ, i64_w, i32_w]
              rfl
            refine pure_ (i := 2) (N := some 13) (v := ?_) (a' := ?_) #[true, true, true, false, false, false, false, false, false, false, false, false, false, false, false, false, false, false, false, false] rfl rfl (any_of HT_.out (by kernel_rfl)) (fun _ _ _ h => h) (Or.inl ⟨by rfl, ?_⟩) ?_ ?_
            rotate_left
            · intro w'
              go_simp
              with_reducible rfl
            rotate_left
            · simp only [Act.put, List.setIfInBounds_toArray, List.set_cons_zero, List.set_cons_succ, i64_w, i32_w]
              rfl
            refine pure_ (i := 3) (N := some 14) (v := ?_) (a' := ?_) #[true, true, true, true, false, false, false, false, false, false, false, false, false, false, false, false, false, false, false, false] rfl rfl (any_of HT_.out (by kernel_rfl)) (fun _ _ _ h => h) (Or.inl ⟨by rfl, ?_⟩) ?_ ?_
            rotate_left
            · intro w'
              go_simp
              with_reducible rfl
            rotate_left
            · simp only [Act.put, List.setIfInBounds_toArray, List.set_cons_zero, List.set_cons_succ, i64_w, i32_w]
              rfl
            refine pure_ (i := 4) (N := some 15) (v := ?_) (a' := ?_) #[true, true, true, true, true, false, false, false, false, false, false, false, false, false, false, false, false, false, false, false] rfl rfl (any_of HT_.out (by kernel_rfl)) (fun _ _ _ h => h) (Or.inl ⟨by rfl, ?_⟩) ?_ ?_
            rotate_left
            · intro w'
              go_simp
              with_reducible rfl
            rotate_left
            · simp only [Act.put, List.setIfInBounds_toArray, List.set_cons_zero, List.set_cons_succ, i64_w, i32_w]
              rfl
            refine pure_ (i := 6) (N := some 17) (v := ?_) (a' := ?_) #[true, true, true, true, true, false, true, false, false, false, false, false, false, false, false, false, false, false, false, false] rfl rfl (any_of HT_.out (by kernel_rfl)) (fun _ _ _ h => h) (Or.inl ⟨by rfl, ?_⟩) ?_ ?_
            rotate_left
            · intro w'
              go_simp
              with_reducible rfl
            rotate_left
            · simp only [Act.put, List.setIfInBounds_toArray, List.set_cons_zero, List.set_cons_succ, i64_w, i32_w]
              rfl
            refine pure_ (i := 7) (N := some 18) (v := ?_) (a' := ?_) #[true, true, true, true, true, false, true, true, false, false, false, false, false, false, false, false, false, false, false, false] rfl rfl (any_of HT_.out (by kernel_rfl)) (fun _ _ _ h => h) (Or.inl ⟨by rfl, ?_⟩) ?_ ?_
            rotate_left
            · intro w'
              go_simp
              with_reducible rfl
            rotate_left
            · simp only [Act.put, List.setIfInBounds_toArray, List.set_cons_zero, List.set_cons_succ, i64_w, i32_w]
              rfl
            refine pure_ (i := 8) (N := some 19) (v := ?_) (a' := ?_) #[true, true, true, true, true, false, true, true, true, false, false, false, false, false, false, false, false, false, false, false] rfl rfl (any_of HT_.out (by kernel_rfl)) (fun _ _ _ h => h) (Or.inl ⟨by rfl, ?_⟩) ?_ ?_
            rotate_left
            · intro w'
              go_simp
              with_reducible rfl
            rotate_left
            · simp only [Act.put, List.setIfInBounds_toArray, List.set_cons_zero, List.set_cons_succ, i64_w, i32_w]
              rfl
            refine pure_ (i := 9) (N := some 20) (v := ?_) (a' := ?_) #[true, true, true, true, true, false, true, true, true, true, false, false, false, false, false, false, false, false, false, false] rfl rfl (any_of HT_.out (by kernel_rfl)) (fun _ _ _ h => h) (Or.inl ⟨by rfl, ?_⟩) ?_ ?_
            rotate_left
            · intro w'
              go_simp
              with_reducible rfl
            rotate_left
            · simp only [Act.put, List.setIfInBounds_toArray, List.set_cons_zero, List.set_cons_succ, i64_w, i32_w]
              rfl
            refine pure_ (i := 11) (N := some 22) (v := ?_) (a' := ?_) #[true, true, true, true, true, false, true, true, true, true, false, true, false, false, false, false, false, false, false, false] rfl rfl (any_of HT_.out (by kernel_rfl)) (fun _ _ _ h => h) (Or.inl ⟨by rfl, ?_⟩) ?_ ?_
            rotate_left
            · intro w'
              go_simp
              with_reducible rfl
            rotate_left
            · simp only [Act.put, List.setIfInBounds_toArray, List.set_cons_zero, List.set_cons_succ, i64_w, i32_w]
              rfl
            refine pure_ (i := 12) (N := some 23) (v := ?_) (a' := ?_) #[true, true, true, true, true, false, true, true, true, true, false, true, true, false, false, false, false, false, false, false] rfl rfl (any_of HT_.out (by kernel_rfl)) (fun _ _ _ h => h) (Or.inl ⟨by rfl, ?_⟩) ?_ ?_
            rotate_left
            · intro w'
              go_simp
              with_reducible rfl
            rotate_left
            · simp only [Act.put, List.setIfInBounds_toArray, List.set_cons_zero, List.set_cons_succ, i64_w, i32_w]
              rfl
            refine pure_ (i := 13) (N := some 24) (v := ?_) (a' := ?_) #[true, true, true, true, true, false, true, true, true, true, false, true, true, true, false, false, false, false, false, false] rfl rfl (any_of HT_.out (by kernel_rfl)) (fun _ _ _ h => h) (Or.inl ⟨by rfl, ?_⟩) ?_ ?_
            rotate_left
            · intro w'
              go_simp
              with_reducible rfl
            rotate_left
            · simp only [Act.put, List.setIfInBounds_toArray, List.set_cons_zero, List.set_cons_succ, i64_w, i32_w]
              rfl
            refine pure_ (i := 14) (N := some 25) (v := ?_) (a' := ?_) #[true, true, true, true, true, false, true, true, true, true, false, true, true, true, true, false, false, false, false, false] rfl rfl (any_of HT_.out (by kernel_rfl)) (fun _ _ _ h => h) (Or.inl ⟨by rfl, ?_⟩) ?_ ?_
            rotate_left
            · intro w'
              go_simp
              with_reducible rfl
            rotate_left
            · simp only [Act.put, List.setIfInBounds_toArray, List.set_cons_zero, List.set_cons_succ, i64_w, i32_w]
              rfl
            refine take_ (i := 5) (N := some 16) (v := ?_) (a' := ?_) #[true, true, true, true, true, true, true, true, true, true, false, true, true, true, true, false, false, false, false, false] rfl rfl (take_ofW HT_.out HW_.out (by kernel_rfl)) (fun _ _ _ h => h) (Or.inl ⟨by rfl, ?_⟩) hHeld ?_ ?_
            rotate_left
            · rintro w' ⟨s0, s1, s2, s3, s4, s5, s6, s7, s8⟩
              go_simp
              with_reducible rfl
            rotate_left
            · simp only [Act.put, List.setIfInBounds_toArray, List.set_cons_zero, List.set_cons_succ, i64_w, i32_w]
              rfl
            refine take_ (i := 10) (N := some 21) (v := ?_) (a' := ?_) #[true, true, true, true, true, true, true, true, true, true, true, true, true, true, true, false, false, false, false, false] rfl rfl (take_ofW HT_.out HW_.out (by kernel_rfl)) (fun _ _ _ h => h) (Or.inl ⟨by rfl, ?_⟩) hHeld ?_ ?_
            rotate_left
            · rintro w' ⟨s0, s1, s2, s3, s4, s5, s6, s7, s8⟩
              go_simp
              with_reducible rfl
            rotate_left
            · simp only [Act.put, List.setIfInBounds_toArray, List.set_cons_zero, List.set_cons_succ, i64_w, i32_w]
              rfl
            refine take_ (i := 15) (N := some 26) (v := ?_) (a' := ?_) #[true, true, true, true, true, true, true, true, true, true, true, true, true, true, true, true, false, false, false, false] rfl rfl (take_ofW HT_.out HW_.out (by kernel_rfl)) (fun _ _ _ h => h) (Or.inl ⟨by rfl, ?_⟩) hHeld ?_ ?_
            rotate_left
            · rintro w' ⟨s0, s1, s2, s3, s4, s5, s6, s7, s8⟩
              go_simp
              with_reducible rfl
            rotate_left
            · simp only [Act.put, List.setIfInBounds_toArray, List.set_cons_zero, List.set_cons_succ, i64_w, i32_w]
              rfl
            refine pure_ (i := 16) (N := some 27) (v := ?_) (a' := ?_) #[true, true, true, true, true, true, true, true, true, true, true, true, true, true, true, true, true, false, false, false] rfl rfl (any_of HT_.out (by kernel_rfl)) (fun _ _ _ h => h) (Or.inl ⟨by rfl, ?_⟩) ?_ ?_
            rotate_left
            · intro w'
              go_simp
              with_reducible rfl
            rotate_left
            · simp only [Act.put, List.setIfInBounds_toArray, List.set_cons_zero, List.set_cons_succ, i64_w, i32_w]
              rfl
            refine one_ (i := 17) (N := some 28) #[true, true, true, true, true, true, true, true, true, true, true, true, true, true, true, true, true, true, false, false] rfl rfl (one_of HT_.out (by kernel_rfl)) (by decide) (fun K hK => ?_)
            refine value_ (w1 := ?_) (v := ?_) (by rfl) rfl ?_ ?_
            rotate_left 2
            · go_simp
              constructor
              · rfl
              · rfl
            refine hK.out _ _ ⟨(World.cell?_alloc_lt _ _ _ (World.block_lt_of_cell? _ _ (((HB.out.cell (World.block_lt_of_cell? w _ hw101_0)).trans hw101_0)))).trans (((HB.out.cell (World.block_lt_of_cell? w _ hw101_0)).trans hw101_0)), (World.cell?_alloc_lt _ _ _ (World.block_lt_of_cell? _ _ (((HB.out.cell (World.block_lt_of_cell? w _ hw101_1)).trans hw101_1)))).trans (((HB.out.cell (World.block_lt_of_cell? w _ hw101_1)).trans hw101_1)), (World.cell?_alloc_lt _ _ _ (World.block_lt_of_cell? _ _ (((HB.out.cell (World.block_lt_of_cell? w _ hw101_2)).trans hw101_2)))).trans (((HB.out.cell (World.block_lt_of_cell? w _ hw101_2)).trans hw101_2)), (World.cell?_alloc_lt _ _ _ (World.block_lt_of_cell? _ _ (((HB.out.cell (World.block_lt_of_cell? w _ hw102_0)).trans hw102_0)))).trans (((HB.out.cell (World.block_lt_of_cell? w _ hw102_0)).trans hw102_0)), (World.cell?_alloc_lt _ _ _ (World.block_lt_of_cell? _ _ (((HB.out.cell (World.block_lt_of_cell? w _ hw102_1)).trans hw102_1)))).trans (((HB.out.cell (World.block_lt_of_cell? w _ hw102_1)).trans hw102_1)), (World.cell?_alloc_lt _ _ _ (World.block_lt_of_cell? _ _ (((HB.out.cell (World.block_lt_of_cell? w _ hw102_2)).trans hw102_2)))).trans (((HB.out.cell (World.block_lt_of_cell? w _ hw102_2)).trans hw102_2)), (World.cell?_alloc_lt _ _ _ (World.block_lt_of_cell? _ _ (((HB.out.cell (World.block_lt_of_cell? w _ hw103_0)).trans hw103_0)))).trans (((HB.out.cell (World.block_lt_of_cell? w _ hw103_0)).trans hw103_0)), (World.cell?_alloc_lt _ _ _ (World.block_lt_of_cell? _ _ (((HB.out.cell (World.block_lt_of_cell? w _ hw103_1)).trans hw103_1)))).trans (((HB.out.cell (World.block_lt_of_cell? w _ hw103_1)).trans hw103_1)), (World.cell?_alloc_lt _ _ _ (World.block_lt_of_cell? _ _ (((HB.out.cell (World.block_lt_of_cell? w _ hw103_2)).trans hw103_2)))).trans (((HB.out.cell (World.block_lt_of_cell? w _ hw103_2)).trans hw103_2))⟩ (fun hHeld => ?_)
            clear hK K
            refine norm_ (a' := ?_) ?_ ?_
            rotate_left
            · show Act.put _ (some 28) _ = _
              simp only [Act.put, List.setIfInBounds_toArray, List.set_cons_zero, List.set_cons_succ, i64_w, i32_w]
              rfl
            refine one_ (i := 18) (N := some 29) #[true, true, true, true, true, true, true, true, true, true, true, true, true, true, true, true, true, true, true, false] rfl rfl (one_of HT_.out (by kernel_rfl)) (by decide) (fun K hK => ?_)
            refine Kd.R_append_step k44 (w0 := w) w.heap.size (by rfl) (.tmp 11) (.tmp 28) 27 44 (.agg #[(.int .i64 0), (.string ⟨#[]⟩), (.int .i64 0)]) 32 rfl Tryd.underlying27 info44 rfl (by decide) (by omega) u3 x3_1 (⟨(rd_T35 l0 x4_1).f0, (rd_T35 l0 x4_1).f1, (rd_T35 l0 x4_1).f2⟩ : S44) [.int .i64 ((rd_T35 l0 x4_1).f0), .string ((rd_T35 l0 x4_1).f1), .int .i64 ((rd_T35 l0 x4_1).f2)] (fun _ => True) (fun _ => False) rfl rfl ?aP (fun _ hk => hk.elim) ?aF ?aO ?aB ?aS ?aL ?_
            (case aP => exact k44_mkM _ _ _ (⟨(rd_T35 l0 x4_1).f0, (rd_T35 l0 x4_1).f1, (rd_T35 l0 x4_1).f2⟩ : S44))
            (case aB => exact (by repeat (first | (with_reducible first | exact HB.out | apply below_alloc | apply pw_below_drewN | apply below_drew1) | exact HB.out)))
            (case aF => exact (fun _ _ => trivial))
            (case aO => exact (by (with_reducible repeat (first | apply Kd.R_alloc | apply Kd.R_drewN | apply Kd.R_drew)); exact HO_3.out))
            (case aS => exact (below_size (by repeat (first | (with_reducible first | exact HB.out | apply below_alloc | apply pw_below_drewN | apply below_drew1) | exact HB.out))))
            (case aL => have := LMc4.out; omega)
            intro v105 w6 ho hb hg hat
            rw [← Ny104.out] at ho
            have n0_ := Aside0.mk (hb)
            have n1_ := Aside0.mk (ho)
            clear HB
            clear HO_3
            have HB := n0_
            have HO106 := n1_
            clear n0_ n1_
            clear ho hb hg hat
            refine hK.out _ _ ⟨((HB.out.cell (World.block_lt_of_cell? w _ hw101_0)).trans hw101_0), ((HB.out.cell (World.block_lt_of_cell? w _ hw101_1)).trans hw101_1), ((HB.out.cell (World.block_lt_of_cell? w _ hw101_2)).trans hw101_2), ((HB.out.cell (World.block_lt_of_cell? w _ hw102_0)).trans hw102_0), ((HB.out.cell (World.block_lt_of_cell? w _ hw102_1)).trans hw102_1), ((HB.out.cell (World.block_lt_of_cell? w _ hw102_2)).trans hw102_2), ((HB.out.cell (World.block_lt_of_cell? w _ hw103_0)).trans hw103_0), ((HB.out.cell (World.block_lt_of_cell? w _ hw103_1)).trans hw103_1), ((HB.out.cell (World.block_lt_of_cell? w _ hw103_2)).trans hw103_2)⟩ (fun hHeld => ?_)
            clear hK K
            refine norm_ (a' := ?_) ?_ ?_
            rotate_left
            · show Act.put _ (some 29) _ = _
              simp only [Act.put, List.setIfInBounds_toArray, List.set_cons_zero, List.set_cons_succ, i64_w, i32_w]
              rfl
            refine pure_ (i := 19) (N := some 3) (v := ?_) (a' := ?_) #[true, true, true, true, true, true, true, true, true, true, true, true, true, true, true, true, true, true, true, true] rfl rfl (any_of HT_.out (by kernel_rfl)) (fun _ _ _ h => h) (Or.inl ⟨by rfl, ?_⟩) ?_ ?_
            rotate_left
            · intro w'
              go_simp
              with_reducible rfl
            rotate_left
            · simp only [Act.put, List.setIfInBounds_toArray, List.set_cons_zero, List.set_cons_succ, i64_w, i32_w]
              rfl
            refine done_ (done_of HT_.out (by kernel_rfl)) ?_
            try go_wp2
            go_roundg k1
            case measure => have := HK1.out; omega
            case rel => exact ⟨(y104), (wrap64 (x4_1 + 1)), (by first | rfl | (simp; done) | (simp [*]; done) | (simp [Go.Proofs.YtngeelpfbajppaaDoor.Bs.isEmpty_bne, Go.Proofs.YtngeelpfbajppaaDoor.Bs.isEmpty_beq]; done)), H', ⟨by have := HK1.out; omega⟩, ⟨by (with_reducible repeat (first | apply Kd.R_alloc | apply Kd.R_drewN | apply Kd.R_drew)); exact HO106.out⟩, ⟨by repeat (first | (with_reducible first | exact HB.out | apply below_alloc | apply pw_below_drewN | apply below_drew1) | exact HB.out)⟩⟩
          · rw [if_neg c4] at H
            exact absurd H (by simp)
        · rw [if_neg c3] at H
          exact absurd H (by simp)
      · rw [if_neg c2] at H
        have c2b0 : decide (x4_1 < (l0.length : Int)) = false := decide_eq_false c2
        clear c2
        obtain rfl := Option.some.inj H
        go_wp2
        go_ret
        exact ⟨_, by first | rfl | (simp [errW_none, errW_some] <;> rfl) | (simp [*, errW_none, errW_some] <;> rfl), by (with_reducible repeat (first | apply Kd.R_alloc | apply Kd.R_drewN | apply Kd.R_drew)); exact HO_3.out, by repeat (first | (with_reducible first | exact HB.out | apply below_alloc | apply pw_below_drewN | apply below_drew1) | exact HB.out)⟩
end Go.Proofs.YtngeelpfbajppaaDoor.PA
end
section
namespace Go.Proofs.YtngeelpfbajppaaDoor.PA
open Go.RowKit Go.Proofs.YtngeelpfbajppaaDoorW.PrintWords Go.Proofs.YtngeelpfbajppaaDoorW.PrintLast Go.Proofs.YtngeelpfbajppaaDoorW.PrintMore
attribute [local go_sem] max2_int min2_int max_two min_two max_three min_three max_four min_four
attribute [local go_sem high] Go.Proofs.YtngeelpfbajppaaDoor.Bs.gtr_bl Go.Proofs.YtngeelpfbajppaaDoor.Bs.leq_bl Go.Proofs.YtngeelpfbajppaaDoor.Bs.cell_set2
set_option linter.unusedVariables false
set_option linter.unusedSimpArgs false
attribute [local go_sem high] eqA44
def instarlaw08_Same.l0 : Nat → List (S44) → List (S44) → Int → Option (Bool)
  | 0, _, _, _ => none
  | k + 1, x0, x1, x5 => if x5 < (x0.length : Int) then (if 0 ≤ x5 then (if x5 < (x1.length : Int) then (if (!(((rd_T44 x0 x5).f0) == ((rd_T44 x1 x5).f0)) || (!((((rd_T44 x0 x5).f1).toList) == (((rd_T44 x1 x5).f1).toList)) || (!(((rd_T44 x0 x5).f2) == ((rd_T44 x1 x5).f2))))) = true then (some false) else (instarlaw08_Same.l0 k x0 x1 (wrap64 (x5 + 1)))) else (none)) else (none)) else (some true)
def instarlaw08_Same.f (k : Nat) (l0 : List (S44)) (l1 : List (S44)) : Option (Bool) := if (l0.length : Int) = (l1.length : Int) then (instarlaw08_Same.l0 k l0 l1 0) else (some false)
theorem instarlaw08_Same.mono_l : ∀ k, (∀ y0 y1 y2, LeO (instarlaw08_Same.l0 k y0 y1 y2) (instarlaw08_Same.l0 (k + 1) y0 y1 y2))
  | 0 => fun _ _ _ r h => by simp [instarlaw08_Same.l0] at h
  | k + 1 => by
    have ih0 := instarlaw08_Same.mono_l k
    · intro y0 y1 y2
      unfold instarlaw08_Same.l0
      repeat' first
      | (with_reducible exact ih0 _ _ _)
      | (with_reducible exact LeO.refl _)
      | (with_reducible exact LeO.none _)
      | (with_reducible refine LeO.ite ?_ ?_)
      | (with_reducible refine LeO.bind ?_ (fun _ => ?_))
      | exact ih0 _ _ _
      | exact LeO.none _
      | refine LeO.ite ?_ ?_
      | refine LeO.bind ?_ (fun _ => ?_)
theorem instarlaw08_Same.mono : ∀ a0 a1 k, LeO (instarlaw08_Same.f k a0 a1) (instarlaw08_Same.f (k + 1) a0 a1) := by
  intro a0 a1 k
  have ih0 := instarlaw08_Same.mono_l k
  unfold instarlaw08_Same.f
  repeat' first
      | (with_reducible exact ih0 _ _ _)
      | (with_reducible exact LeO.refl _)
      | (with_reducible exact LeO.none _)
      | (with_reducible refine LeO.ite ?_ ?_)
      | (with_reducible refine LeO.bind ?_ (fun _ => ?_))
      | exact ih0 _ _ _
      | exact LeO.none _
      | refine LeO.ite ?_ ?_
      | refine LeO.bind ?_ (fun _ => ?_)
set_option maxHeartbeats 8000000 in
set_option maxRecDepth 100000 in
theorem instarlaw08_Same.calls (k : Nat) (A0 : Option Addr) (c0 : Nat) (l0 : List (S44)) (A1 : Option Addr) (c1 : Nat) (l1 : List (S44)) (r : Bool) (w : World) (hr0 : Kd.C k44 w A0 l0.length l0) (hc0 : l0.length ≤ c0) (hr1 : Kd.C k44 w A1 l1.length l1) (hc1 : l1.length ≤ c1) (h : instarlaw08_Same.f k l0 l1 = some r) :
    Calls Tryd.prog 10 #[.slice A0 l0.length c0, .slice A1 l1.length c1] w fun e w' => e = .returned (.bool r) ∧ Drawn0 w w' := by
  have hu44 := Tryd.underlying44
  have HR0 := Aside0.mk hr0
  have HC0 := Aside0.mk hc0
  clear hr0 hc0
  have HR1 := Aside0.mk hr1
  have HC1 := Aside0.mk hc1
  clear hr1 hc1
  have H : (if (l0.length : Int) = (l1.length : Int) then (instarlaw08_Same.l0 k l0 l1 0) else (some false)) = some r := h
  clear h
  by_cases c3 : (l0.length : Int) = (l1.length : Int)
  · rw [if_pos c3] at H
    have c3b0 : ((l0.length : Int) == (l1.length : Int)) = true := beq_iff_eq.mpr c3
    have c3b1 : ((l0.length : Int) != (l1.length : Int)) = false := bne_eq_false_iff_eq.mpr c3
    have c3b2 : (l0.length == l1.length) = true := by first | simpa using c3 | (simp at c3 ⊢; omega)
    clear c3
    have H' := Aside0.mk H
    clear H
    go_enter Tryd.func10, Tryd.ntmps10
    go_wp2
    repeat (go_quiet (fail); try go_wp2)
    go_loopg [5] k (fun kq v5 w' => ∃ (x5_1 : Int), v5 = .int .i64 x5_1 ∧ Aside0 (instarlaw08_Same.l0 kq l0 l1 x5_1 = some r) ∧ Aside0 (kq ≤ k) ∧ Drawn0 w w')
    case atStart => exact ⟨(0), (by first | rfl | (simp; done) | (simp [*]; done) | (simp [Go.Proofs.YtngeelpfbajppaaDoor.Bs.isEmpty_bne, Go.Proofs.YtngeelpfbajppaaDoor.Bs.isEmpty_beq]; done)), H', ⟨Nat.le_refl _⟩, by repeat (first | exact Drawn0.refl _ | apply Drawn0.step)⟩
    case round =>
      clear H'
      try clear c1
      try clear p2
      try clear c3
      try clear c3b0
      try clear c3b1
      try clear c3b2
      obtain ⟨x5_1, rfl, HA, HK1, ⟨m1, rfl⟩⟩ := hrel
      cases gk with
      | zero => exact absurd HA.out (by simp [instarlaw08_Same.l0])
      | succ k1 =>
        have H := HA.out
        clear HA
        simp only [instarlaw08_Same.l0] at H
        by_cases c4 : x5_1 < (l0.length : Int)
        · rw [if_pos c4] at H
          have c4b0 : decide (x5_1 < (l0.length : Int)) = true := decide_eq_true c4
          clear c4
          by_cases c5 : 0 ≤ x5_1
          · rw [if_pos c5] at H
            have c5b0 : decide (0 ≤ x5_1) = true := decide_eq_true c5
            clear c5
            by_cases c6 : x5_1 < (l1.length : Int)
            · rw [if_pos c6] at H
              have c6b0 : decide (x5_1 < (l1.length : Int)) = true := decide_eq_true c6
              clear c6
              by_cases c7 : (!(((rd_T44 l0 x5_1).f0) == ((rd_T44 l1 x5_1).f0)) || (!((((rd_T44 l0 x5_1).f1).toList) == (((rd_T44 l1 x5_1).f1).toList)) || (!(((rd_T44 l0 x5_1).f2) == ((rd_T44 l1 x5_1).f2))))) = true
              · rw [if_pos c7] at H
                have c7b0 : (!(((rd_T44 l0 x5_1).f0) == ((rd_T44 l1 x5_1).f0)) || (!((((rd_T44 l0 x5_1).f1).toList) == (((rd_T44 l1 x5_1).f1).toList)) || (!(((rd_T44 l0 x5_1).f2) == ((rd_T44 l1 x5_1).f2))))) = true := c7
                clear c7
                obtain rfl := Option.some.inj H
                have p101 : 0 ≤ (x5_1 : Int) := of_decide_eq_true (by first | (with_reducible assumption) | assumption)
                have q101 : x5_1 < (l0.length : Int) := of_decide_eq_true (by first | (with_reducible assumption) | assumption)
                obtain ⟨ad101, e101, hx101_0, hx101_1, hx101_2⟩ := at_T44 HR0.out x5_1 p101 q101
                cases e101
                replace p101 := eq_true p101
                replace q101 := eq_true q101
                have p102 : 0 ≤ (x5_1 : Int) := of_decide_eq_true (by first | (with_reducible assumption) | assumption)
                have q102 : x5_1 < (l1.length : Int) := of_decide_eq_true (by first | (with_reducible assumption) | assumption)
                obtain ⟨ad102, e102, hx102_0, hx102_1, hx102_2⟩ := at_T44 HR1.out x5_1 p102 q102
                cases e102
                replace p102 := eq_true p102
                replace q102 := eq_true q102
                go_wp2
                repeat (go_quiet (fail); try go_wp2)
                go_ret
                exact ⟨by first | rfl | (simp; done) | (simp [*]; done) | (simp [Go.Proofs.YtngeelpfbajppaaDoor.Bs.isEmpty_bne, Go.Proofs.YtngeelpfbajppaaDoor.Bs.isEmpty_beq]; done), by repeat (first | exact Drawn0.refl _ | apply Drawn0.step)⟩
              · rw [if_neg c7] at H
                have c7b0 : (!(((rd_T44 l0 x5_1).f0) == ((rd_T44 l1 x5_1).f0)) || (!((((rd_T44 l0 x5_1).f1).toList) == (((rd_T44 l1 x5_1).f1).toList)) || (!(((rd_T44 l0 x5_1).f2) == ((rd_T44 l1 x5_1).f2))))) = false := by simpa using c7
                clear c7
                have H' := Aside0.mk H
                clear H
                have p101 : 0 ≤ (x5_1 : Int) := of_decide_eq_true (by first | (with_reducible assumption) | assumption)
                have q101 : x5_1 < (l0.length : Int) := of_decide_eq_true (by first | (with_reducible assumption) | assumption)
                obtain ⟨ad101, e101, hx101_0, hx101_1, hx101_2⟩ := at_T44 HR0.out x5_1 p101 q101
                cases e101
                replace p101 := eq_true p101
                replace q101 := eq_true q101
                have p102 : 0 ≤ (x5_1 : Int) := of_decide_eq_true (by first | (with_reducible assumption) | assumption)
                have q102 : x5_1 < (l1.length : Int) := of_decide_eq_true (by first | (with_reducible assumption) | assumption)
                obtain ⟨ad102, e102, hx102_0, hx102_1, hx102_2⟩ := at_T44 HR1.out x5_1 p102 q102
                cases e102
                replace p102 := eq_true p102
                replace q102 := eq_true q102
                go_wp2
                repeat (go_quiet (fail); try go_wp2)
                go_roundg k1
                case measure => have := HK1.out; omega
                case rel => exact ⟨(wrap64 (x5_1 + 1)), (by first | rfl | (simp; done) | (simp [*]; done) | (simp [Go.Proofs.YtngeelpfbajppaaDoor.Bs.isEmpty_bne, Go.Proofs.YtngeelpfbajppaaDoor.Bs.isEmpty_beq]; done)), H', ⟨by have := HK1.out; omega⟩, by repeat (first | exact Drawn0.refl _ | apply Drawn0.step)⟩
            · rw [if_neg c6] at H
              exact absurd H (by simp)
          · rw [if_neg c5] at H
            exact absurd H (by simp)
        · rw [if_neg c4] at H
          have c4b0 : decide (x5_1 < (l0.length : Int)) = false := decide_eq_false c4
          clear c4
          obtain rfl := Option.some.inj H
          go_wp2
          repeat (go_quiet (fail); try go_wp2)
          go_ret
          exact ⟨by first | rfl | (simp; done) | (simp [*]; done) | (simp [Go.Proofs.YtngeelpfbajppaaDoor.Bs.isEmpty_bne, Go.Proofs.YtngeelpfbajppaaDoor.Bs.isEmpty_beq]; done), by repeat (first | exact Drawn0.refl _ | apply Drawn0.step)⟩
  · rw [if_neg c3] at H
    have c3b0 : ((l0.length : Int) == (l1.length : Int)) = false := beq_eq_false_iff_ne.mpr c3
    have c3b1 : ((l0.length : Int) != (l1.length : Int)) = true := bne_iff_ne.mpr c3
    have c3b2 : (l0.length == l1.length) = false := by first | simpa using c3 | (simp at c3 ⊢; omega)
    obtain rfl := Option.some.inj H
    go_enter Tryd.func10, Tryd.ntmps10
    go_wp2
    repeat (go_quiet (fail); try go_wp2)
    go_ret
    exact ⟨by first | rfl | (simp; done) | (simp [*]; done) | (simp [Go.Proofs.YtngeelpfbajppaaDoor.Bs.isEmpty_bne, Go.Proofs.YtngeelpfbajppaaDoor.Bs.isEmpty_beq]; done), by repeat (first | exact Drawn0.refl _ | apply Drawn0.step)⟩
def instarref08_Own.f (a0 : ByteArray) : Option (Bool) := if a0.toList = ([116, 114, 117, 101] : List UInt8) then (some true) else (if a0.toList = ([102, 97, 108, 115, 101] : List UInt8) then (some true) else (if a0.toList = ([110, 117, 108, 108] : List UInt8) then (some true) else (if a0.toList = ([97, 110, 100] : List UInt8) then (some true) else (if a0.toList = ([111, 114] : List UInt8) then (some true) else (if a0.toList = ([110, 111, 116] : List UInt8) then (some true) else (if a0.toList = ([105, 115] : List UInt8) then (some true) else (some false)))))))
set_option maxHeartbeats 8000000 in
set_option maxRecDepth 100000 in
theorem instarref08_Own.calls (a0 : ByteArray) (r : Bool) (w : World) (h : instarref08_Own.f a0 = some r) :
    Calls Tryd.prog 13 #[.string a0] w fun e w' => e = .returned (.bool r) ∧ Drawn0 w w' := by
  have H : (if a0.toList = ([116, 114, 117, 101] : List UInt8) then (some true) else (if a0.toList = ([102, 97, 108, 115, 101] : List UInt8) then (some true) else (if a0.toList = ([110, 117, 108, 108] : List UInt8) then (some true) else (if a0.toList = ([97, 110, 100] : List UInt8) then (some true) else (if a0.toList = ([111, 114] : List UInt8) then (some true) else (if a0.toList = ([110, 111, 116] : List UInt8) then (some true) else (if a0.toList = ([105, 115] : List UInt8) then (some true) else (some false)))))))) = some r := h
  clear h
  by_cases c2 : a0.toList = ([116, 114, 117, 101] : List UInt8)
  · rw [if_pos c2] at H
    have c2b0 : (a0.toList == ([116, 114, 117, 101] : List UInt8)) = true := beq_iff_eq.mpr c2
    have c2b1 : (a0.toList != ([116, 114, 117, 101] : List UInt8)) = false := bne_eq_false_iff_eq.mpr c2
    clear c2
    obtain rfl := Option.some.inj H
    go_enter Tryd.func13, Tryd.ntmps13
    go_wp2
    go_ret
    exact ⟨by first | rfl | (simp; done) | (simp [*]; done) | (simp [Go.Proofs.YtngeelpfbajppaaDoor.Bs.isEmpty_bne, Go.Proofs.YtngeelpfbajppaaDoor.Bs.isEmpty_beq]; done), by repeat (first | exact Drawn0.refl _ | apply Drawn0.step)⟩
  · rw [if_neg c2] at H
    have c2b0 : (a0.toList == ([116, 114, 117, 101] : List UInt8)) = false := beq_eq_false_iff_ne.mpr c2
    have c2b1 : (a0.toList != ([116, 114, 117, 101] : List UInt8)) = true := bne_iff_ne.mpr c2
    by_cases c3 : a0.toList = ([102, 97, 108, 115, 101] : List UInt8)
    · rw [if_pos c3] at H
      have c3b0 : (a0.toList == ([102, 97, 108, 115, 101] : List UInt8)) = true := beq_iff_eq.mpr c3
      have c3b1 : (a0.toList != ([102, 97, 108, 115, 101] : List UInt8)) = false := bne_eq_false_iff_eq.mpr c3
      clear c3
      obtain rfl := Option.some.inj H
      go_enter Tryd.func13, Tryd.ntmps13
      go_wp2
      go_ret
      exact ⟨by first | rfl | (simp; done) | (simp [*]; done) | (simp [Go.Proofs.YtngeelpfbajppaaDoor.Bs.isEmpty_bne, Go.Proofs.YtngeelpfbajppaaDoor.Bs.isEmpty_beq]; done), by repeat (first | exact Drawn0.refl _ | apply Drawn0.step)⟩
    · rw [if_neg c3] at H
      have c3b0 : (a0.toList == ([102, 97, 108, 115, 101] : List UInt8)) = false := beq_eq_false_iff_ne.mpr c3
      have c3b1 : (a0.toList != ([102, 97, 108, 115, 101] : List UInt8)) = true := bne_iff_ne.mpr c3
      by_cases c4 : a0.toList = ([110, 117, 108, 108] : List UInt8)
      · rw [if_pos c4] at H
        have c4b0 : (a0.toList == ([110, 117, 108, 108] : List UInt8)) = true := beq_iff_eq.mpr c4
        have c4b1 : (a0.toList != ([110, 117, 108, 108] : List UInt8)) = false := bne_eq_false_iff_eq.mpr c4
        clear c4
        obtain rfl := Option.some.inj H
        go_enter Tryd.func13, Tryd.ntmps13
        go_wp2
        go_ret
        exact ⟨by first | rfl | (simp; done) | (simp [*]; done) | (simp [Go.Proofs.YtngeelpfbajppaaDoor.Bs.isEmpty_bne, Go.Proofs.YtngeelpfbajppaaDoor.Bs.isEmpty_beq]; done), by repeat (first | exact Drawn0.refl _ | apply Drawn0.step)⟩
      · rw [if_neg c4] at H
        have c4b0 : (a0.toList == ([110, 117, 108, 108] : List UInt8)) = false := beq_eq_false_iff_ne.mpr c4
        have c4b1 : (a0.toList != ([110, 117, 108, 108] : List UInt8)) = true := bne_iff_ne.mpr c4
        by_cases c5 : a0.toList = ([97, 110, 100] : List UInt8)
        · rw [if_pos c5] at H
          have c5b0 : (a0.toList == ([97, 110, 100] : List UInt8)) = true := beq_iff_eq.mpr c5
          have c5b1 : (a0.toList != ([97, 110, 100] : List UInt8)) = false := bne_eq_false_iff_eq.mpr c5
          clear c5
          obtain rfl := Option.some.inj H
          go_enter Tryd.func13, Tryd.ntmps13
          go_wp2
          go_ret
          exact ⟨by first | rfl | (simp; done) | (simp [*]; done) | (simp [Go.Proofs.YtngeelpfbajppaaDoor.Bs.isEmpty_bne, Go.Proofs.YtngeelpfbajppaaDoor.Bs.isEmpty_beq]; done), by repeat (first | exact Drawn0.refl _ | apply Drawn0.step)⟩
        · rw [if_neg c5] at H
          have c5b0 : (a0.toList == ([97, 110, 100] : List UInt8)) = false := beq_eq_false_iff_ne.mpr c5
          have c5b1 : (a0.toList != ([97, 110, 100] : List UInt8)) = true := bne_iff_ne.mpr c5
          by_cases c6 : a0.toList = ([111, 114] : List UInt8)
          · rw [if_pos c6] at H
            have c6b0 : (a0.toList == ([111, 114] : List UInt8)) = true := beq_iff_eq.mpr c6
            have c6b1 : (a0.toList != ([111, 114] : List UInt8)) = false := bne_eq_false_iff_eq.mpr c6
            clear c6
            obtain rfl := Option.some.inj H
            go_enter Tryd.func13, Tryd.ntmps13
            go_wp2
            go_ret
            exact ⟨by first | rfl | (simp; done) | (simp [*]; done) | (simp [Go.Proofs.YtngeelpfbajppaaDoor.Bs.isEmpty_bne, Go.Proofs.YtngeelpfbajppaaDoor.Bs.isEmpty_beq]; done), by repeat (first | exact Drawn0.refl _ | apply Drawn0.step)⟩
          · rw [if_neg c6] at H
            have c6b0 : (a0.toList == ([111, 114] : List UInt8)) = false := beq_eq_false_iff_ne.mpr c6
            have c6b1 : (a0.toList != ([111, 114] : List UInt8)) = true := bne_iff_ne.mpr c6
            by_cases c7 : a0.toList = ([110, 111, 116] : List UInt8)
            · rw [if_pos c7] at H
              have c7b0 : (a0.toList == ([110, 111, 116] : List UInt8)) = true := beq_iff_eq.mpr c7
              have c7b1 : (a0.toList != ([110, 111, 116] : List UInt8)) = false := bne_eq_false_iff_eq.mpr c7
              clear c7
              obtain rfl := Option.some.inj H
              go_enter Tryd.func13, Tryd.ntmps13
              go_wp2
              go_ret
              exact ⟨by first | rfl | (simp; done) | (simp [*]; done) | (simp [Go.Proofs.YtngeelpfbajppaaDoor.Bs.isEmpty_bne, Go.Proofs.YtngeelpfbajppaaDoor.Bs.isEmpty_beq]; done), by repeat (first | exact Drawn0.refl _ | apply Drawn0.step)⟩
            · rw [if_neg c7] at H
              have c7b0 : (a0.toList == ([110, 111, 116] : List UInt8)) = false := beq_eq_false_iff_ne.mpr c7
              have c7b1 : (a0.toList != ([110, 111, 116] : List UInt8)) = true := bne_iff_ne.mpr c7
              by_cases c8 : a0.toList = ([105, 115] : List UInt8)
              · rw [if_pos c8] at H
                have c8b0 : (a0.toList == ([105, 115] : List UInt8)) = true := beq_iff_eq.mpr c8
                have c8b1 : (a0.toList != ([105, 115] : List UInt8)) = false := bne_eq_false_iff_eq.mpr c8
                clear c8
                obtain rfl := Option.some.inj H
                go_enter Tryd.func13, Tryd.ntmps13
                go_wp2
                go_ret
                exact ⟨by first | rfl | (simp; done) | (simp [*]; done) | (simp [Go.Proofs.YtngeelpfbajppaaDoor.Bs.isEmpty_bne, Go.Proofs.YtngeelpfbajppaaDoor.Bs.isEmpty_beq]; done), by repeat (first | exact Drawn0.refl _ | apply Drawn0.step)⟩
              · rw [if_neg c8] at H
                have c8b0 : (a0.toList == ([105, 115] : List UInt8)) = false := beq_eq_false_iff_ne.mpr c8
                have c8b1 : (a0.toList != ([105, 115] : List UInt8)) = true := bne_iff_ne.mpr c8
                obtain rfl := Option.some.inj H
                go_enter Tryd.func13, Tryd.ntmps13
                go_wp2
                go_ret
                exact ⟨by first | rfl | (simp; done) | (simp [*]; done) | (simp [Go.Proofs.YtngeelpfbajppaaDoor.Bs.isEmpty_bne, Go.Proofs.YtngeelpfbajppaaDoor.Bs.isEmpty_beq]; done), by repeat (first | exact Drawn0.refl _ | apply Drawn0.step)⟩
def instarlaw08_LexWords.f (k : Nat) (a0 : ByteArray) : Option (Bool) := if (a0.size : Int) > 600 then ((instarlaw08_alive.f k).bind fun t101 => (some t101)) else ((lex_Words.f k a0).bind fun bt102 => ((instarref08_Words.f k a0).bind fun bt107 => ((instarlaw08_To.f k bt102.1).bind fun t112 => ((instarlaw08_Same.f k t112 bt107.1).bind fun t115 => ((instarlaw08_alive.f k).bind fun t116 => (if t116 = true then (if t115 = true then (if bt102.2.1 = bt107.2.1 then (if bt102.2.2 = bt107.2.2 then ((lex_Own.f k a0).bind fun t117 => ((instarref08_Own.f a0).bind fun t118 => (some (t117 == t118)))) else (some false)) else (some false)) else (some false)) else (some false)))))))
theorem instarlaw08_LexWords.mono : ∀ a0 k, LeO (instarlaw08_LexWords.f k a0) (instarlaw08_LexWords.f (k + 1) a0) := by
  intro a0 k
  unfold instarlaw08_LexWords.f
  repeat' first
      | (with_reducible exact instarlaw08_Same.mono _ _ _)
      | (with_reducible exact instarlaw08_To.mono _ _)
      | (with_reducible exact instarlaw08_alive.mono _)
      | (with_reducible exact instarref08_Words.mono _ _)
      | (with_reducible exact lex_Own.mono _ _)
      | (with_reducible exact lex_Words.mono _ _)
      | (with_reducible exact LeO.refl _)
      | (with_reducible exact LeO.none _)
      | (with_reducible refine LeO.ite ?_ ?_)
      | (with_reducible refine LeO.bind ?_ (fun _ => ?_))
      | exact instarlaw08_Same.mono _ _ _
      | exact instarlaw08_To.mono _ _
      | exact instarlaw08_alive.mono _
      | exact instarref08_Words.mono _ _
      | exact lex_Own.mono _ _
      | exact lex_Words.mono _ _
      | exact LeO.none _
      | refine LeO.ite ?_ ?_
      | refine LeO.bind ?_ (fun _ => ?_)
set_option maxHeartbeats 8000000 in
set_option maxRecDepth 100000 in
theorem instarlaw08_LexWords.calls (k : Nat) (a0 : ByteArray) (r : Bool) (w : World) (hG : Go.Proofs.YtngeelpfbajppaaDoor.Bs.Gl w) (hr_ : Aside0 (r = true)) (h : instarlaw08_LexWords.f k a0 = some r) :
    Calls Tryd.prog 3 #[.string a0] w fun e w' => e = .returned (.bool r) ∧ Below w.heap.size w w' := by
  have HB := Aside0.mk (Below.refl w.heap.size w)
  have H : (if (a0.size : Int) > 600 then ((instarlaw08_alive.f k).bind fun t101 => (some t101)) else ((lex_Words.f k a0).bind fun bt102 => ((instarref08_Words.f k a0).bind fun bt107 => ((instarlaw08_To.f k bt102.1).bind fun t112 => ((instarlaw08_Same.f k t112 bt107.1).bind fun t115 => ((instarlaw08_alive.f k).bind fun t116 => (if t116 = true then (if t115 = true then (if bt102.2.1 = bt107.2.1 then (if bt102.2.2 = bt107.2.2 then ((lex_Own.f k a0).bind fun t117 => ((instarref08_Own.f a0).bind fun t118 => (some (t117 == t118)))) else (some false)) else (some false)) else (some false)) else (some false)))))))) = some r := h
  clear h
  by_cases c2 : (a0.size : Int) > 600
  · rw [if_pos c2] at H
    have c2b0 : decide (600 < (a0.size : Int)) = true := decide_eq_true c2
    have c2b1 : decide (600 < a0.size) = true := decide_eq_true (by omega)
    clear c2
    replace H := Option.bind_eq_some_iff.mp H
    obtain ⟨t101, A30, H⟩ := H
    replace H : (some t101) = some r := H
    have A3 := Aside0.mk A30
    clear A30
    obtain rfl := Option.some.inj H
    go_enter Tryd.func3, Tryd.ntmps3
    go_wp2_with (first | ((with_reducible refine gate_callee (f := 7) rfl ?_); refine goesL_ (some 13) rfl rfl Tryd.func7 (by kernel_rfl) rfl #[] rfl (by (try simp only [List.map_toArray, List.map_cons, List.map_nil]); first | done | rfl | (simp only [List.length_drop, List.length_take]; rfl)) ?_; (with_reducible refine (instarlaw08_alive.calls k  t101 _ ?side1 A3.out).mono ?_); (case side1 => first | exact hG | exact Go.Proofs.YtngeelpfbajppaaDoor.Bs.Gl.below hG (by repeat (first | (with_reducible first | exact HB.out | apply below_alloc | apply pw_below_drewN | apply below_drew1) | exact HB.out)) | (repeat (first | exact hG | refine Go.Proofs.YtngeelpfbajppaaDoor.Bs.Gl.drewN ?_ _))); rintro e w4 ⟨rfl, hb⟩; refine ⟨_, rfl, ?_⟩; have n0_ := Aside0.mk (below_step (by repeat (first | (with_reducible first | exact HB.out | apply below_alloc | apply pw_below_drewN | apply below_drew1) | exact HB.out)) hb); clear HB; have HB := n0_; clear n0_; (try clear hb); (try clear hb2); (try clear hk); (try clear hi)))
    go_ret
    exact ⟨by first | rfl | (simp [errW_none, errW_some] <;> rfl) | (simp [*, errW_none, errW_some] <;> rfl), by repeat (first | (with_reducible first | exact HB.out | apply below_alloc | apply pw_below_drewN | apply below_drew1) | exact HB.out)⟩
  · rw [if_neg c2] at H
    have c2b0 : decide (600 < (a0.size : Int)) = false := decide_eq_false c2
    have c2b1 : decide (600 < a0.size) = false := decide_eq_false (by omega)
    clear c2
    replace H := Option.bind_eq_some_iff.mp H
    obtain ⟨⟨t102, t103, t104⟩, A50, H⟩ := H
    replace H : ((instarref08_Words.f k a0).bind fun bt107 => ((instarlaw08_To.f k t102).bind fun t112 => ((instarlaw08_Same.f k t112 bt107.1).bind fun t115 => ((instarlaw08_alive.f k).bind fun t116 => (if t116 = true then (if t115 = true then (if t103 = bt107.2.1 then (if t104 = bt107.2.2 then ((lex_Own.f k a0).bind fun t117 => ((instarref08_Own.f a0).bind fun t118 => (some (t117 == t118)))) else (some false)) else (some false)) else (some false)) else (some false)))))) = some r := H
    have A5 := Aside0.mk A50
    clear A50
    replace H := Option.bind_eq_some_iff.mp H
    obtain ⟨⟨t107, t108, t109⟩, A60, H⟩ := H
    replace H : ((instarlaw08_To.f k t102).bind fun t112 => ((instarlaw08_Same.f k t112 t107).bind fun t115 => ((instarlaw08_alive.f k).bind fun t116 => (if t116 = true then (if t115 = true then (if t103 = t108 then (if t104 = t109 then ((lex_Own.f k a0).bind fun t117 => ((instarref08_Own.f a0).bind fun t118 => (some (t117 == t118)))) else (some false)) else (some false)) else (some false)) else (some false))))) = some r := H
    have A6 := Aside0.mk A60
    clear A60
    replace H := Option.bind_eq_some_iff.mp H
    obtain ⟨t112, A70, H⟩ := H
    replace H : ((instarlaw08_Same.f k t112 t107).bind fun t115 => ((instarlaw08_alive.f k).bind fun t116 => (if t116 = true then (if t115 = true then (if t103 = t108 then (if t104 = t109 then ((lex_Own.f k a0).bind fun t117 => ((instarref08_Own.f a0).bind fun t118 => (some (t117 == t118)))) else (some false)) else (some false)) else (some false)) else (some false)))) = some r := H
    have A7 := Aside0.mk A70
    clear A70
    replace H := Option.bind_eq_some_iff.mp H
    obtain ⟨t115, A80, H⟩ := H
    replace H : ((instarlaw08_alive.f k).bind fun t116 => (if t116 = true then (if t115 = true then (if t103 = t108 then (if t104 = t109 then ((lex_Own.f k a0).bind fun t117 => ((instarref08_Own.f a0).bind fun t118 => (some (t117 == t118)))) else (some false)) else (some false)) else (some false)) else (some false))) = some r := H
    have A8 := Aside0.mk A80
    clear A80
    replace H := Option.bind_eq_some_iff.mp H
    obtain ⟨t116, A90, H⟩ := H
    replace H : (if t116 = true then (if t115 = true then (if t103 = t108 then (if t104 = t109 then ((lex_Own.f k a0).bind fun t117 => ((instarref08_Own.f a0).bind fun t118 => (some (t117 == t118)))) else (some false)) else (some false)) else (some false)) else (some false)) = some r := H
    have A9 := Aside0.mk A90
    clear A90
    by_cases c10 : t116 = true
    · subst c10
      have H1 : (if t115 = true then (if t103 = t108 then (if t104 = t109 then ((lex_Own.f k a0).bind fun t117 => ((instarref08_Own.f a0).bind fun t118 => (some (t117 == t118)))) else (some false)) else (some false)) else (some false)) = some r := by rw [if_pos rfl] at H; exact H
      clear H
      have H := H1
      clear H1
      by_cases c11 : t115 = true
      · subst c11
        have H1 : (if t103 = t108 then (if t104 = t109 then ((lex_Own.f k a0).bind fun t117 => ((instarref08_Own.f a0).bind fun t118 => (some (t117 == t118)))) else (some false)) else (some false)) = some r := by rw [if_pos rfl] at H; exact H
        clear H
        have H := H1
        clear H1
        by_cases c12 : t103 = t108
        · rw [if_pos c12] at H
          have c12b0 : (t103 == t108) = true := beq_iff_eq.mpr c12
          have c12b1 : (t103 != t108) = false := bne_eq_false_iff_eq.mpr c12
          clear c12
          by_cases c13 : t104 = t109
          · rw [if_pos c13] at H
            have c13b0 : (t104 == t109) = true := beq_iff_eq.mpr c13
            have c13b1 : (t104 != t109) = false := bne_eq_false_iff_eq.mpr c13
            clear c13
            replace H := Option.bind_eq_some_iff.mp H
            obtain ⟨t117, A140, H⟩ := H
            replace H : ((instarref08_Own.f a0).bind fun t118 => (some (t117 == t118))) = some r := H
            have A14 := Aside0.mk A140
            clear A140
            replace H := Option.bind_eq_some_iff.mp H
            obtain ⟨t118, A150, H⟩ := H
            replace H : (some (t117 == t118)) = some r := H
            have A15 := Aside0.mk A150
            clear A150
            obtain rfl := Option.some.inj H
            go_enter Tryd.func3, Tryd.ntmps3
            go_wp2_with (first | ((with_reducible refine gate_callee (f := 8) rfl ?_); refine goesL_ (some 16) rfl rfl Tryd.func8 (by kernel_rfl) rfl #[.string a0] rfl (by (try simp only [List.map_toArray, List.map_cons, List.map_nil]); first | done | rfl | (simp only [List.length_drop, List.length_take]; rfl)) ?_; (with_reducible refine (lex_Words.calls k a0 t102 t103 t104 _ ?side1 A5.out).mono ?_); (case side1 => first | exact hG | exact Go.Proofs.YtngeelpfbajppaaDoor.Bs.Gl.below hG (by repeat (first | (with_reducible first | exact HB.out | apply below_alloc | apply pw_below_drewN | apply below_drew1) | exact HB.out)) | (repeat (first | exact hG | refine Go.Proofs.YtngeelpfbajppaaDoor.Bs.Gl.drewN ?_ _))); rintro e w16 ⟨v105, rfl, ho0, hb⟩; refine ⟨_, rfl, ?_⟩; have n0_ := Aside0.mk (Kd.R_lower ho0 (below_size (by repeat (first | (with_reducible first | exact HB.out | apply below_alloc | apply pw_below_drewN | apply below_drew1) | exact HB.out)))); have n1_ := Aside0.mk (below_step (by repeat (first | (with_reducible first | exact HB.out | apply below_alloc | apply pw_below_drewN | apply below_drew1) | exact HB.out)) hb); clear HB; have HO106 := n0_; have HB := n1_; clear n0_ n1_; (try clear hb); (try clear hb2); (try clear hk); (try clear hi); (try clear ho0)) | ((with_reducible refine gate_callee (f := 9) rfl ?_); refine goesL_ (some 22) rfl rfl Tryd.func9 (by kernel_rfl) rfl #[.string a0] rfl (by (try simp only [List.map_toArray, List.map_cons, List.map_nil]); first | done | rfl | (simp only [List.length_drop, List.length_take]; rfl)) ?_; (with_reducible refine (instarref08_Words.calls k a0 t107 t108 t109 _ A6.out).mono ?_); rintro e w17 ⟨v110, rfl, ho0, hb⟩; refine ⟨_, rfl, ?_⟩; have n0_ := Aside0.mk (Kd.R_below (by (with_reducible repeat (first | apply Kd.R_alloc | apply Kd.R_drewN | apply Kd.R_drew)); exact HO106.out) hb); have n1_ := Aside0.mk (Kd.R_lower ho0 (below_size (by repeat (first | (with_reducible first | exact HB.out | apply below_alloc | apply pw_below_drewN | apply below_drew1) | exact HB.out)))); have n2_ := Aside0.mk (below_step (by repeat (first | (with_reducible first | exact HB.out | apply below_alloc | apply pw_below_drewN | apply below_drew1) | exact HB.out)) hb); clear HO106; clear HB; have HO106 := n0_; have HO111 := n1_; have HB := n2_; clear n0_ n1_ n2_; (try clear hb); (try clear hb2); (try clear hk); (try clear hi); (try clear ho0); obtain ⟨Ao18, co18, eo18⟩ := Kd.R_slice HO106.out; subst eo18) | ((with_reducible refine gate_callee (f := 11) rfl ?_); refine goesL_ (some 27) rfl rfl Tryd.func11 (by kernel_rfl) rfl #[.slice Ao18 t102.length co18] rfl (by (try simp only [List.map_toArray, List.map_cons, List.map_nil]); first | done | rfl | (simp only [List.length_drop, List.length_take]; rfl)) ?_; (with_reducible refine (instarlaw08_To.calls k _ _ t102 t112 _ ?side1 ?side2 A7.out).mono ?_); (case side1 => repeat (first | exact (Kd.R_reads' HO106.out).2.2 | (with_reducible refine Kd.C_alloc ?_ _) | (with_reducible refine Kd.C_drewN ?_ _) | (with_reducible refine Kd.C_drew ?_))); (case side2 => exact (Kd.R_reads' HO106.out).2.1); rintro e w19 ⟨v113, rfl, ho0, hb⟩; refine ⟨_, rfl, ?_⟩; have n0_ := Aside0.mk (Kd.R_below (by (with_reducible repeat (first | apply Kd.R_alloc | apply Kd.R_drewN | apply Kd.R_drew)); exact HO106.out) hb); have n1_ := Aside0.mk (Kd.R_elder' (by (with_reducible repeat (first | apply Kd.R_alloc | apply Kd.R_drewN | apply Kd.R_drew)); exact HO111.out) (Kd.R_base ho0) hb); have n2_ := Aside0.mk (Kd.R_lower (Kd.R_new' ho0 (Kd.R_lt (by (with_reducible repeat (first | apply Kd.R_alloc | apply Kd.R_drewN | apply Kd.R_drew)); exact HO111.out))) (below_size (by repeat (first | (with_reducible first | exact HB.out | apply below_alloc | apply pw_below_drewN | apply below_drew1) | exact HB.out)))); have n3_ := Aside0.mk (below_step (by repeat (first | (with_reducible first | exact HB.out | apply below_alloc | apply pw_below_drewN | apply below_drew1) | exact HB.out)) hb); clear HO106; clear HO111; clear HB; have HO106 := n0_; have HO111 := n1_; have HO114 := n2_; have HB := n3_; clear n0_ n1_ n2_ n3_; (try clear hb); (try clear hb2); (try clear hk); (try clear hi); (try clear ho0); obtain ⟨Ao20, co20, eo20⟩ := Kd.R_slice HO114.out; subst eo20; obtain ⟨Ao21, co21, eo21⟩ := Kd.R_slice HO111.out; subst eo21) | ((with_reducible refine gate_callee (f := 10) rfl ?_); refine goesL_ (some 29) rfl rfl Tryd.func10 (by kernel_rfl) rfl #[.slice Ao20 t112.length co20, .slice Ao21 t107.length co21] rfl (by (try simp only [List.map_toArray, List.map_cons, List.map_nil]); first | done | rfl | (simp only [List.length_drop, List.length_take]; rfl)) ?_; (with_reducible refine (instarlaw08_Same.calls k _ _ t112 _ _ t107 true _ ?side1 ?side2 ?side3 ?side4 A8.out).mono ?_); (case side1 => repeat (first | exact (Kd.R_reads' HO114.out).2.2 | (with_reducible refine Kd.C_alloc ?_ _) | (with_reducible refine Kd.C_drewN ?_ _) | (with_reducible refine Kd.C_drew ?_))); (case side2 => exact (Kd.R_reads' HO114.out).2.1); (case side3 => repeat (first | exact (Kd.R_reads' HO111.out).2.2 | (with_reducible refine Kd.C_alloc ?_ _) | (with_reducible refine Kd.C_drewN ?_ _) | (with_reducible refine Kd.C_drew ?_))); (case side4 => exact (Kd.R_reads' HO111.out).2.1); rintro e w' ⟨rfl, ⟨nd, rfl⟩⟩; refine ⟨_, rfl, ?_⟩) | ((with_reducible refine gate_callee (f := 7) rfl ?_); refine goesL_ (some 30) rfl rfl Tryd.func7 (by kernel_rfl) rfl #[] rfl (by (try simp only [List.map_toArray, List.map_cons, List.map_nil]); first | done | rfl | (simp only [List.length_drop, List.length_take]; rfl)) ?_; (with_reducible refine (instarlaw08_alive.calls k  true _ ?side1 A9.out).mono ?_); (case side1 => first | exact hG | exact Go.Proofs.YtngeelpfbajppaaDoor.Bs.Gl.below hG (by repeat (first | (with_reducible first | exact HB.out | apply below_alloc | apply pw_below_drewN | apply below_drew1) | exact HB.out)) | (repeat (first | exact hG | refine Go.Proofs.YtngeelpfbajppaaDoor.Bs.Gl.drewN ?_ _))); rintro e w22 ⟨rfl, hb⟩; refine ⟨_, rfl, ?_⟩; have n0_ := Aside0.mk (Kd.R_below (by (with_reducible repeat (first | apply Kd.R_alloc | apply Kd.R_drewN | apply Kd.R_drew)); exact HO106.out) hb); have n1_ := Aside0.mk (Kd.R_below (by (with_reducible repeat (first | apply Kd.R_alloc | apply Kd.R_drewN | apply Kd.R_drew)); exact HO111.out) hb); have n2_ := Aside0.mk (Kd.R_below (by (with_reducible repeat (first | apply Kd.R_alloc | apply Kd.R_drewN | apply Kd.R_drew)); exact HO114.out) hb); have n3_ := Aside0.mk (below_step (by repeat (first | (with_reducible first | exact HB.out | apply below_alloc | apply pw_below_drewN | apply below_drew1) | exact HB.out)) hb); clear HO106; clear HO111; clear HO114; clear HB; have HO106 := n0_; have HO111 := n1_; have HO114 := n2_; have HB := n3_; clear n0_ n1_ n2_ n3_; (try clear hb); (try clear hb2); (try clear hk); (try clear hi)) | (go_at_call 12; (with_reducible refine (lex_Own.calls k a0 t117 _ A14.out).mono ?_); rintro e w23 ⟨rfl, hb⟩; have n0_ := Aside0.mk (Kd.R_below (by (with_reducible repeat (first | apply Kd.R_alloc | apply Kd.R_drewN | apply Kd.R_drew)); exact HO106.out) hb); have n1_ := Aside0.mk (Kd.R_below (by (with_reducible repeat (first | apply Kd.R_alloc | apply Kd.R_drewN | apply Kd.R_drew)); exact HO111.out) hb); have n2_ := Aside0.mk (Kd.R_below (by (with_reducible repeat (first | apply Kd.R_alloc | apply Kd.R_drewN | apply Kd.R_drew)); exact HO114.out) hb); have n3_ := Aside0.mk (below_step (by repeat (first | (with_reducible first | exact HB.out | apply below_alloc | apply pw_below_drewN | apply below_drew1) | exact HB.out)) hb); clear HO106; clear HO111; clear HO114; clear HB; have HO106 := n0_; have HO111 := n1_; have HO114 := n2_; have HB := n3_; clear n0_ n1_ n2_ n3_; (try clear hb); (try clear hb2); (try clear hk); (try clear hi)) | (go_at_call 13; (with_reducible refine (instarref08_Own.calls a0 t118 _ A15.out).mono ?_); rintro e w' ⟨rfl, ⟨nd, rfl⟩⟩))
            go_ret
            exact ⟨by first | rfl | (simp [errW_none, errW_some] <;> rfl) | (simp [*, errW_none, errW_some] <;> rfl), by repeat (first | (with_reducible first | exact HB.out | apply below_alloc | apply pw_below_drewN | apply below_drew1) | exact HB.out)⟩
          · rw [if_neg c13] at H
            have c13b0 : (t104 == t109) = false := beq_eq_false_iff_ne.mpr c13
            have c13b1 : (t104 != t109) = true := bne_iff_ne.mpr c13
            exact absurd ((Option.some.inj H).trans hr_.out) (by decide)
        · rw [if_neg c12] at H
          have c12b0 : (t103 == t108) = false := beq_eq_false_iff_ne.mpr c12
          have c12b1 : (t103 != t108) = true := bne_iff_ne.mpr c12
          exact absurd ((Option.some.inj H).trans hr_.out) (by decide)
      · replace c11 := Bool.eq_false_iff.mpr c11
        subst c11
        have H1 : (some false) = some r := by rw [if_neg (show ¬ (false = true) by decide)] at H; exact H
        clear H
        have H := H1
        clear H1
        exact absurd ((Option.some.inj H).trans hr_.out) (by decide)
    · replace c10 := Bool.eq_false_iff.mpr c10
      subst c10
      have H1 : (some false) = some r := by rw [if_neg (show ¬ (false = true) by decide)] at H; exact H
      clear H
      have H := H1
      clear H1
      exact absurd ((Option.some.inj H).trans hr_.out) (by decide)
end Go.Proofs.YtngeelpfbajppaaDoor.PA
end
section
namespace Go.Proofs.YtngeelpfbajppaaDoor.Op
open Go Go.Proofs.YtngeelpfbajppaaDoorW.PrintWords Go.ChangeShapes Go.WideShapes
set_option linter.unusedVariables false
set_option linter.unusedSimpArgs false
def reach (s : ByteArray) : Prop := s.size ≤ 140737488351232
variable {P : Program}
theorem hw_of {H : Type} {ts : List TypeId} {ds : List (DataW H)} (h : (DataW.weightsEach P ts ds).all (· ≤ reachBytes) = true) {j : Nat} {t : TypeId} {d : DataW H} (ht : ts[j]? = some t) (hd : ds[j]? = some d) : ∀ n ∈ d.weights P t, n ≤ reachBytes := fun n hn => by
  simpa using List.all_eq_true.1 h n (DataW.weights_mem_each ht hd n hn)
end Go.Proofs.YtngeelpfbajppaaDoor.Op
end
section
namespace Go.Proofs.YtngeelpfbajppaaDoor.QLexWords
open Go Go.RowKit Go.Proofs.YtngeelpfbajppaaDoorW.PrintWords Go.Proofs.YtngeelpfbajppaaDoor.PA Go.Proofs.YtngeelpfbajppaaDoor.Op
set_option linter.unusedVariables false
set_option linter.unusedSimpArgs false
def Pure : Prop := ∀ (a0 : ByteArray), reach a0 → ∃ k, instarlaw08_LexWords.f k a0 = some true
end Go.Proofs.YtngeelpfbajppaaDoor.QLexWords
end
section
namespace Go.Proofs.YtngeelpfbajppaaDoor.Rk
open Go Go.RowKit Go.Proofs.YtngeelpfbajppaaDoorW.PrintWords
set_option linter.unusedVariables false
set_option linter.unusedSimpArgs false
section
variable {α β : Type}
def Evr (g : Nat → Option α) (v : α) : Prop := ∃ n, ∀ k, n ≤ k → g k = some v
theorem Evr.const {c : Option α} {v : α} (h : c = some v) : Evr (fun _ => c) v := ⟨0, fun _ _ => h⟩
theorem Evr.succ {g : Nat → Option α} {v : α} (h : Evr (fun k => g (k + 1)) v) : Evr g v := by
  obtain ⟨n, h⟩ := h
  exact ⟨n + 1, fun k hk => by
    obtain ⟨j, rfl⟩ : ∃ j, k = j + 1 := ⟨k - 1, by omega⟩
    exact h j (by omega)⟩
theorem Evr.bind {g : Nat → Option α} {f : Nat → α → Option β} {v : α} {u : β} (h : Evr g v) (h' : Evr (fun k => f k v) u) : Evr (fun k => (g k).bind (f k)) u := by
  obtain ⟨n, h⟩ := h
  obtain ⟨m, h'⟩ := h'
  exact ⟨max n m, fun k hk => by
    show (g k).bind (f k) = _
    rw [h k (by omega)]
    exact h' k (by omega)⟩
theorem Evr.bindc {c : Option α} {f : Nat → α → Option β} {v : α} {u : β} (h : c = some v) (h' : Evr (fun k => f k v) u) : Evr (fun k => c.bind (f k)) u := Evr.bind (Evr.const h) h'
theorem Evr.pos {c : Prop} [Decidable c] {a b : Nat → Option α} {v : α} (hc : c) (h : Evr a v) : Evr (fun k => if c then a k else b k) v := by
  obtain ⟨n, h⟩ := h
  exact ⟨n, fun k hk => by
    show (if c then a k else b k) = _
    rw [if_pos hc]
    exact h k hk⟩
theorem Evr.neg {c : Prop} [Decidable c] {a b : Nat → Option α} {v : α} (hc : ¬ c) (h : Evr b v) : Evr (fun k => if c then a k else b k) v := by
  obtain ⟨n, h⟩ := h
  exact ⟨n, fun k hk => by
    show (if c then a k else b k) = _
    rw [if_neg hc]
    exact h k hk⟩
theorem Evr.mono {g : Nat → Option α} {v : α} {n : Nat} (h : g n = some v) (hm : ∀ k, LeO (g k) (g (k + 1))) : Evr g v := by
  refine ⟨n, fun k hk => ?_⟩
  obtain ⟨d, rfl⟩ : ∃ d, k = n + d := ⟨k - n, by omega⟩
  clear hk
  induction d with
  | zero => exact h
  | succ d ih => exact hm _ _ ih
theorem Evr.ex {g : Nat → Option α} {v : α} (h : Evr g v) : ∃ k, g k = some v := by
  obtain ⟨n, h⟩ := h
  exact ⟨n, h n (Nat.le_refl _)⟩
end
theorem wrap_eq {x : Int} (h0 : -9223372036854775808 ≤ x) (h1 : x ≤ 9223372036854775807) : wrap64 x = x := by unfold wrap64; omega
theorem wrap_nat {n : Nat} (h : n < 9223372036854775807) : wrap64 ((n : Int) + 1) = ((n + 1 : Nat) : Int) := by unfold wrap64; omega
theorem ba_ext {x y : ByteArray} (h : x.data.toList = y.data.toList) : x = y := by
  cases x with | mk a => cases y with | mk b => exact congrArg ByteArray.mk (Array.toList_inj.1 h)
theorem dl (s : ByteArray) : s.data.toList.length = s.size := Array.length_toList
theorem bt_get {s : ByteArray} {i : Nat} (h : i < s.data.toList.length) : bt s (i : Int) = ((s.data.toList[i]).toNat : Int) := by
  have h' : i < s.size := by rw [← dl]; exact h
  simp only [bt, Int.toNat_natCast, dif_pos h']
  rfl
theorem ext_one {s : ByteArray} {i : Nat} (h : i < s.data.toList.length) : (s.extract i (i + 1)).data.toList = [s.data.toList[i]] := by
  rw [Lib.extract_data, show i + 1 - i = 1 by omega, List.drop_eq_getElem_cons h]
  rfl
theorem ext_drop (s : ByteArray) (i : Nat) : (s.extract i s.size).data.toList = s.data.toList.drop i := by
  rw [Lib.extract_data, List.take_of_length_le (by rw [List.length_drop, dl]; omega)]
theorem ext_size (s : ByteArray) (i : Nat) : (s.extract i s.size).size = s.size - i := by rw [← dl, ext_drop, List.length_drop, dl]
end Go.Proofs.YtngeelpfbajppaaDoor.Rk
end
section
namespace Go.Proofs.YtngeelpfbajppaaDoor.Lw
open Go Go.RowKit Go.Proofs.YtngeelpfbajppaaDoorW.PrintWords Go.Proofs.YtngeelpfbajppaaDoor.PA Go.Proofs.YtngeelpfbajppaaDoor.Rk
set_option linter.unusedVariables false
set_option linter.unusedSimpArgs false
theorem let_eq (a : Int) : instarref08_letter.f a = some (lx_pL a) := by
  unfold instarref08_letter.f lx_pL
  by_cases h1 : 97 ≤ a <;> by_cases h2 : a ≤ 122 <;> by_cases h3 : 65 ≤ a <;> by_cases h4 : a ≤ 90 <;> simp [h1, h2, h3, h4]
theorem fig_eq (a : Int) : instarref08_figure.f a = some (lx_pF a) := by
  unfold instarref08_figure.f lx_pF
  by_cases h1 : 48 ≤ a <;> by_cases h2 : a ≤ 57 <;> simp [h1, h2]
def rp (name : Bool) (b : UInt8) : Bool := if name = true then lx_pN (b.toNat : Int) else lx_pF (b.toNat : Int)
theorem run_l (s : ByteArray) (hs : s.size ≤ 1000) (name : Bool) : ∀ n i, n + i = s.size → Evr (fun k => instarref08_run.l0 k s name (i : Int)) ((i + lx_run (rp name) (s.data.toList.drop i) : Nat) : Int)
  | 0, i, hn => by
    refine Evr.succ ?_
    simp only [instarref08_run.l0]
    rw [List.drop_eq_nil_of_le (by rw [dl]; omega)]
    exact Evr.neg (by omega) (Evr.const (by simp [lx_run]))
  | n + 1, i, hn => by
    have c : i < s.size := by omega
    have c' : i < s.data.toList.length := by rw [dl]; exact c
    have ih := run_l s hs name n (i + 1) (by omega)
    have e1 : wrap64 ((i : Int) + 1) = ((i + 1 : Nat) : Int) := wrap_nat (by omega)
    refine Evr.succ ?_
    simp only [instarref08_run.l0, e1, bt_get c', let_eq, fig_eq]
    rw [List.drop_eq_getElem_cons c']
    refine Evr.pos (by omega) (Evr.pos (by omega) (Evr.bindc rfl (Evr.bindc rfl ?_)))
    generalize s.data.toList[i]'c' = B
    have hit : ∀ (h : rp name B = true), ((i + lx_run (rp name) (B :: s.data.toList.drop (i + 1)) : Nat) : Int) = ((i + 1 + lx_run (rp name) (s.data.toList.drop (i + 1)) : Nat) : Int) := fun h => by rw [lx_hit h]; omega
    have miss : ∀ (h : rp name B = false), ((i + lx_run (rp name) (B :: s.data.toList.drop (i + 1)) : Nat) : Int) = (i : Int) := fun h => by rw [lx_miss h]; omega
    by_cases f : lx_pF (B.toNat : Int) = true
    · rw [hit (by unfold rp; split <;> simp [lx_pN, f])]
      exact Evr.pos f ih
    · refine Evr.neg f ?_
      have f' : lx_pF (B.toNat : Int) = false := by simpa using f
      cases name with
      | false =>
        rw [miss (by simp [rp, f'])]
        exact Evr.neg (by simp) (Evr.const rfl)
      | true =>
        refine Evr.pos rfl ?_
        by_cases l : lx_pL (B.toNat : Int) = true
        · rw [hit (by simp [rp, lx_pN, l])]
          exact Evr.pos l ih
        · have l' : lx_pL (B.toNat : Int) = false := by simpa using l
          refine Evr.neg l ?_
          by_cases u : (B.toNat : Int) = 95
          · rw [hit (by simp [rp, lx_pN, u])]
            exact Evr.pos u ih
          · rw [miss (by simp [rp, lx_pN, f', l', u])]
            exact Evr.neg u (Evr.const rfl)
theorem run_ev (s : ByteArray) (hs : s.size ≤ 1000) (name : Bool) : Evr (fun k => instarref08_run.f k s name) ((lx_run (rp name) s.data.toList : Nat) : Int) := by
  unfold instarref08_run.f
  simpa using run_l s hs name s.size 0 rfl
def qres (acc : ByteArray) (i : Nat) (r : Option (List UInt8 × Nat)) : ByteArray × Int := match r with | some (t, n) => (acc ++ ⟨t.toArray⟩, ((i + n : Nat) : Int)) | none => (⟨#[]⟩, 0)
theorem q39n : lx_q [39] = some ([], 1) := rfl
theorem q39 (l : List UInt8) : lx_q (39 :: 39 :: l) = (lx_q l).map fun x => (39 :: x.1, x.2 + 2) := by simp [lx_q]
theorem q39e {c : UInt8} (h : ¬ c = 39) (l : List UInt8) : lx_q (39 :: c :: l) = some ([], 1) := by simp [lx_q, h]
theorem qne {b : UInt8} (h : ¬ b = 39) (l : List UInt8) : lx_q (b :: l) = (lx_q l).map fun x => (b :: x.1, x.2 + 1) := by
  cases l with
  | nil => simp [lx_q, h]
  | cons c l => simp [lx_q, h]
theorem app_nil (acc : ByteArray) : acc ++ (⟨([] : List UInt8).toArray⟩ : ByteArray) = acc := ba_ext (by rw [ByteArray.data_append, Array.toList_append]; simp)
theorem quote_l (s : ByteArray) (hs : s.size ≤ 1000) : ∀ n i (acc : ByteArray), s.size - i ≤ n → i ≤ s.size → acc.size ≤ i → Evr (fun k => instarref08_quote.l0 k s acc (i : Int)) (qres acc i (lx_q (s.data.toList.drop i)))
  | 0, i, acc, hn, hi, ha => by
    refine Evr.succ ?_
    simp only [instarref08_quote.l0]
    rw [List.drop_eq_nil_of_le (by rw [dl]; omega)]
    exact Evr.neg (by omega) (Evr.const rfl)
  | n + 1, i, acc, hn, hi, ha => by
    by_cases c : i < s.size
    · have c' : i < s.data.toList.length := by rw [dl]; exact c
      have e1 : wrap64 ((i : Int) + 1) = ((i + 1 : Nat) : Int) := wrap_nat (by omega)
      have e2 : wrap64 (((i + 1 : Nat) : Int) + 1) = ((i + 2 : Nat) : Int) := wrap_nat (by omega)
      have hx := ext_one c'
      have hz : (s.extract i (i + 1)).size = 1 := by rw [← dl, hx]; rfl
      have t1 : (i : Int) < (s.size : Int) := by omega
      have t2 : 0 ≤ (i : Int) := by omega
      refine Evr.succ ?_
      simp only [instarref08_quote.l0, e1, e2, bt_get c', Int.toNat_natCast]
      refine Evr.pos t1 (Evr.pos t2 ?_)
      rw [List.drop_eq_getElem_cons c']
      by_cases q : s.data.toList[i] = 39
      · refine Evr.pos (by rw [q]; rfl) ?_
        rw [q]
        by_cases d : i + 1 < s.size
        · have d' : i + 1 < s.data.toList.length := by rw [dl]; exact d
          refine Evr.neg (by omega) (Evr.pos (by omega) (Evr.pos (by omega) ?_))
          rw [bt_get d', List.drop_eq_getElem_cons d']
          by_cases q2 : s.data.toList[i + 1] = 39
          · have hz39 : (⟨#[39]⟩ : ByteArray).size = 1 := rfl
            have ih := quote_l s hs n (i + 2) (acc ++ (⟨#[39]⟩ : ByteArray)) (by omega) (by omega) (by rw [ByteArray.size_append, hz39]; omega)
            refine Evr.pos (by rw [q2]; rfl) (Evr.pos (by omega) ?_)
            rw [q2, q39]
            have e : qres acc i ((lx_q (s.data.toList.drop (i + 1 + 1))).map fun x => (39 :: x.1, x.2 + 2)) = qres (acc ++ (⟨#[39]⟩ : ByteArray)) (i + 2) (lx_q (s.data.toList.drop (i + 2))) := by
              show qres acc i ((lx_q (s.data.toList.drop (i + 2))).map fun x => (39 :: x.1, x.2 + 2)) = _
              cases lx_q (s.data.toList.drop (i + 2)) with
              | none => rfl
              | some x =>
                simp only [qres, Option.map_some]
                refine Prod.ext (ba_ext ?_) ?_
                · simp only [ByteArray.data_append, Array.toList_append]
                  simp
                · simp only; omega
            rw [e]
            exact ih
          · have q2' : ¬ ((s.data.toList[i + 1]).toNat : Int) = 39 := fun h => q2 (UInt8.toNat_inj.1 (by show _ = 39; omega))
            rw [q39e q2]
            exact Evr.neg q2' (Evr.const (by simp only [qres, app_nil]))
        · rw [List.drop_eq_nil_of_le (show s.data.toList.length ≤ i + 1 by rw [dl]; omega), q39n]
          exact Evr.pos (by omega) (Evr.const (by simp only [qres, app_nil]))
      · have q' : ¬ ((s.data.toList[i]).toNat : Int) = 39 := fun h => q (UInt8.toNat_inj.1 (by show _ = 39; omega))
        have ih := quote_l s hs n (i + 1) (acc ++ s.extract i (i + 1)) (by omega) (by omega) (by rw [ByteArray.size_append, hz]; omega)
        rw [qne q]
        have e : qres acc i ((lx_q (s.data.toList.drop (i + 1))).map fun x => (s.data.toList[i] :: x.1, x.2 + 1)) = qres (acc ++ s.extract i (i + 1)) (i + 1) (lx_q (s.data.toList.drop (i + 1))) := by
          cases lx_q (s.data.toList.drop (i + 1)) with
          | none => rfl
          | some x =>
            simp only [qres, Option.map_some]
            refine Prod.ext (ba_ext ?_) ?_
            · simp only [ByteArray.data_append, Array.toList_append, hx]
              simp
            · simp only; omega
        rw [e]
        exact Evr.neg q' (Evr.pos (by omega) (Evr.pos (by omega) (Evr.pos (by omega) ih)))
    · refine Evr.succ ?_
      simp only [instarref08_quote.l0]
      rw [List.drop_eq_nil_of_le (by rw [dl]; omega)]
      exact Evr.neg (by omega) (Evr.const rfl)
theorem quote_ev (s : ByteArray) (hs : s.size ≤ 1000) (h1 : 1 ≤ s.size) : Evr (fun k => instarref08_quote.f k s) (lx_qr (lx_q (s.data.toList.drop 1))) := by
  unfold instarref08_quote.f
  have h := quote_l s hs (s.size - 1) 1 (⟨#[]⟩ : ByteArray) (Nat.le_refl _) h1 (Nat.zero_le _)
  have e : qres (⟨#[]⟩ : ByteArray) 1 (lx_q (s.data.toList.drop 1)) = lx_qr (lx_q (s.data.toList.drop 1)) := by
    cases lx_q (s.data.toList.drop 1) with
    | none => rfl
    | some x =>
      simp only [qres, lx_qr]
      refine Prod.ext (ba_ext ?_) ?_
      · simp only [ByteArray.data_append, Array.toList_append]
        simp
      · simp only; omega
  rw [e] at h
  exact h
end Go.Proofs.YtngeelpfbajppaaDoor.Lw
end
section
namespace Go.Proofs.YtngeelpfbajppaaDoor.Lw
open Go Go.RowKit Go.Proofs.YtngeelpfbajppaaDoorW.PrintWords Go.Proofs.YtngeelpfbajppaaDoor.PA Go.Proofs.YtngeelpfbajppaaDoor.Rk
set_option linter.unusedVariables false
set_option linter.unusedSimpArgs false
abbrev c1 (x : Int × ByteArray × Int) : Int × ByteArray × Int × Int := (x.1, x.2.1, 0, x.2.2)
def mk (s : ByteArray) : Int × ByteArray × Int := if lx_at s 12 0 = -1 then (0, ⟨#[]⟩, 0) else (3, lx_marks.getD (lx_at s 12 0).toNat ByteArray.empty, ((lx_marks.getD (lx_at s 12 0).toNat ByteArray.empty).size : Int))
theorem one_eq (s : ByteArray) (b : UInt8) (l : List UInt8) (hb : s.data.toList = b :: l) : lx_one s =
    if lx_pL (b.toNat : Int) = true then (if lx_run (rp true) s.data.toList ≤ 20 then (0, s.extract 0 (lx_run (rp true) s.data.toList), (lx_run (rp true) s.data.toList : Int)) else (0, ⟨#[]⟩, 0))
    else if lx_pF (b.toNat : Int) = true then (if lx_run (rp false) s.data.toList ≤ 19 then (1, s.extract 0 (lx_run (rp false) s.data.toList), (lx_run (rp false) s.data.toList : Int)) else (0, ⟨#[]⟩, 0))
    else if b = 39 ∧ (lx_qr (lx_q l)).1.size ≤ 200 then (2, (lx_qr (lx_q l)).1, (lx_qr (lx_q l)).2)
    else mk s := by
  have e1 : rp true = fun b => lx_pN (b.toNat : Int) := by funext b; simp [rp]
  have e2 : rp false = fun b => lx_pF (b.toNat : Int) := by funext b; simp [rp]
  rw [e1, e2]
  unfold lx_one mk
  rw [hb]
theorem at_eq (s : ByteArray) : lx_at s 12 0 = if Lib.hasPrefix s.data.toList [60, 61] = true then 0 else if Lib.hasPrefix s.data.toList [62, 61] = true then 1 else if Lib.hasPrefix s.data.toList [60, 62] = true then 2 else
    if Lib.hasPrefix s.data.toList [40] = true then 3 else if Lib.hasPrefix s.data.toList [41] = true then 4 else if Lib.hasPrefix s.data.toList [44] = true then 5 else if Lib.hasPrefix s.data.toList [61] = true then 6 else
    if Lib.hasPrefix s.data.toList [60] = true then 7 else if Lib.hasPrefix s.data.toList [62] = true then 8 else if Lib.hasPrefix s.data.toList [43] = true then 9 else if Lib.hasPrefix s.data.toList [45] = true then 10 else
    if Lib.hasPrefix s.data.toList [42] = true then 11 else -1 := rfl
def m1 (b : UInt8) : Int := if (40 == b) = true then 3 else if (41 == b) = true then 4 else if (44 == b) = true then 5 else if (61 == b) = true then 6 else if (60 == b) = true then 7 else if (62 == b) = true then 8 else if (43 == b) = true then 9 else if (45 == b) = true then 10 else if (42 == b) = true then 11 else -1
theorem at_1 (s : ByteArray) (b : UInt8) (hb : s.data.toList = [b]) : lx_at s 12 0 = m1 b := by
  rw [at_eq, hb]
  simp [Lib.hasPrefix, List.isPrefixOf, m1]
theorem at_2 (s : ByteArray) (b c : UInt8) (l : List UInt8) (hb : s.data.toList = b :: c :: l) : lx_at s 12 0 = if (60 == b && 61 == c) = true then 0 else if (62 == b && 61 == c) = true then 1 else if (60 == b && 62 == c) = true then 2 else m1 b := by
  rw [at_eq, hb]
  simp [Lib.hasPrefix, List.isPrefixOf, m1]
theorem j3_ev (s : ByteArray) (b : UInt8) (l : List UInt8) (hb : s.data.toList = b :: l) : Evr (fun k => instarref08_one.j3 k s false) (c1 (if m1 b = -1 then (0, ⟨#[]⟩, 0) else (3, lx_marks.getD (m1 b).toNat ByteArray.empty, ((lx_marks.getD (m1 b).toNat ByteArray.empty).size : Int)))) := by
  have hl : 1 ≤ s.size := by rw [← dl, hb]; simp
  have h0 : 0 < s.data.toList.length := by rw [dl]; omega
  have hbt : bt s 0 = (b.toNat : Int) := by
    have := bt_get h0
    simp only [hb, List.getElem_cons_zero] at this
    exact this
  have hx : (s.extract 0 1).data.toList = [b] := by
    rw [Lib.extract_data, hb]; rfl
  have hm : ∀ m : UInt8, ((m == b) = true) = ((b.toNat : Int) = (m.toNat : Int)) := fun m => by
    rw [beq_iff_eq, eq_iff_iff]
    constructor
    · intro h; subst h; rfl
    · intro h; exact UInt8.toNat_inj.1 (by omega)
  refine Evr.succ ?_
  simp only [instarref08_one.j3, hbt]
  refine Evr.neg (by simp) (Evr.pos (by omega) ?_)
  unfold m1
  have one : ∀ (m : UInt8) (X : ByteArray), X.data.toList = [m] → b = m → Evr (fun _ : Nat => if (0 : Int) ≤ 1 then if 1 ≤ (s.size : Int) then some (3, s.extract 0 1, 0, 1) else none else none) ((3, X, 0, (X.size : Int)) : Int × ByteArray × Int × Int) := by
    intro m X hX e
    refine Evr.pos (by omega) (Evr.pos (by omega) (Evr.const ?_))
    have e1 : s.extract 0 1 = X := ba_ext (by rw [hx, hX, e])
    have e2 : X.size = 1 := by rw [← dl, hX]; rfl
    rw [e1, e2]; rfl
  by_cases k1 : (40 == b) = true
  · rw [if_pos k1]
    exact Evr.pos ((hm 40).mp k1) (one 40 _ rfl (beq_iff_eq.mp k1).symm)
  rw [if_neg k1]
  refine Evr.neg (fun h => k1 ((hm 40).mpr h)) ?_
  by_cases k2 : (41 == b) = true
  · rw [if_pos k2]
    exact Evr.pos ((hm 41).mp k2) (one 41 _ rfl (beq_iff_eq.mp k2).symm)
  rw [if_neg k2]
  refine Evr.neg (fun h => k2 ((hm 41).mpr h)) ?_
  by_cases k3 : (44 == b) = true
  · rw [if_pos k3]
    exact Evr.pos ((hm 44).mp k3) (one 44 _ rfl (beq_iff_eq.mp k3).symm)
  rw [if_neg k3]
  refine Evr.neg (fun h => k3 ((hm 44).mpr h)) ?_
  by_cases k4 : (61 == b) = true
  · rw [if_pos k4]
    exact Evr.pos ((hm 61).mp k4) (one 61 _ rfl (beq_iff_eq.mp k4).symm)
  rw [if_neg k4]
  refine Evr.neg (fun h => k4 ((hm 61).mpr h)) ?_
  by_cases k5 : (60 == b) = true
  · rw [if_pos k5]
    exact Evr.pos ((hm 60).mp k5) (one 60 _ rfl (beq_iff_eq.mp k5).symm)
  rw [if_neg k5]
  refine Evr.neg (fun h => k5 ((hm 60).mpr h)) ?_
  by_cases k6 : (62 == b) = true
  · rw [if_pos k6]
    exact Evr.pos ((hm 62).mp k6) (one 62 _ rfl (beq_iff_eq.mp k6).symm)
  rw [if_neg k6]
  refine Evr.neg (fun h => k6 ((hm 62).mpr h)) ?_
  by_cases k7 : (43 == b) = true
  · rw [if_pos k7]
    exact Evr.pos ((hm 43).mp k7) (one 43 _ rfl (beq_iff_eq.mp k7).symm)
  rw [if_neg k7]
  refine Evr.neg (fun h => k7 ((hm 43).mpr h)) ?_
  by_cases k8 : (45 == b) = true
  · rw [if_pos k8]
    exact Evr.pos ((hm 45).mp k8) (one 45 _ rfl (beq_iff_eq.mp k8).symm)
  rw [if_neg k8]
  refine Evr.neg (fun h => k8 ((hm 45).mpr h)) ?_
  by_cases k9 : (42 == b) = true
  · rw [if_pos k9]
    exact Evr.pos ((hm 42).mp k9) (one 42 _ rfl (beq_iff_eq.mp k9).symm)
  rw [if_neg k9]
  exact Evr.neg (fun h => k9 ((hm 42).mpr h)) (Evr.const rfl)
theorem j3_two (s X : ByteArray) (b c : UInt8) (l : List UInt8) (hb : s.data.toList = b :: c :: l) (hX : X.data.toList = [b, c]) : Evr (fun k => instarref08_one.j3 k s true) ((3, X, 0, (X.size : Int)) : Int × ByteArray × Int × Int) := by
  have hl : 2 ≤ s.size := by rw [← dl, hb]; simp
  have e1 : s.extract 0 2 = X := ba_ext (by rw [hX, Lib.extract_data, hb]; rfl)
  have e2 : X.size = 2 := by rw [← dl, hX]; rfl
  refine Evr.succ ?_
  simp only [instarref08_one.j3]
  rw [e1, e2]
  exact Evr.pos (by simp) (Evr.pos (by omega) (Evr.pos (by omega) (Evr.const rfl)))
theorem marks_ev (s : ByteArray) (b : UInt8) (l : List UInt8) (hb : s.data.toList = b :: l) (hq : ¬ b = 39) : Evr (fun k => instarref08_one.j2 k s false) (c1 (mk s)) := by
  have hl : 1 ≤ s.size := by rw [← dl, hb]; simp
  have h0 : 0 < s.data.toList.length := by rw [dl]; omega
  have hbt : bt s 0 = (b.toNat : Int) := by
    have := bt_get h0
    simp only [hb, List.getElem_cons_zero] at this
    exact this
  have hq' : ¬ (b.toNat : Int) = 39 := fun h => hq (UInt8.toNat_inj.1 (by show _ = 39; omega))
  refine Evr.succ ?_
  simp only [instarref08_one.j2, hbt]
  refine Evr.neg (by simp) (Evr.pos (by omega) (Evr.neg hq' ?_))
  unfold mk
  cases l with
  | nil =>
    have h1 : s.size = 1 := by rw [← dl, hb]; rfl
    rw [at_1 s b hb]
    exact Evr.neg (by omega) (j3_ev s b [] hb)
  | cons c l =>
    have h2 : 2 ≤ s.size := by rw [← dl, hb]; simp
    have hx : (s.extract 0 2).toList = [b, c] := by rw [ByteArray.toList_eq, Lib.extract_data, hb]; rfl
    rw [at_2 s b c l hb]
    rw [hx]
    refine Evr.pos (by omega) (Evr.pos (by omega) (Evr.pos (by omega) ?_))
    by_cases k0 : (60 == b && 61 == c) = true
    · rw [if_pos k0]
      simp only [Bool.and_eq_true, beq_iff_eq] at k0
      obtain ⟨rfl, rfl⟩ := k0
      exact Evr.pos rfl (j3_two s _ 60 61 l hb rfl)
    rw [if_neg k0]
    refine Evr.neg (fun h => k0 (by simp only [List.cons.injEq, and_true] at h; obtain ⟨rfl, rfl⟩ := h; rfl)) ?_
    by_cases k1 : (62 == b && 61 == c) = true
    · rw [if_pos k1]
      simp only [Bool.and_eq_true, beq_iff_eq] at k1
      obtain ⟨rfl, rfl⟩ := k1
      exact Evr.pos rfl (j3_two s _ 62 61 l hb rfl)
    rw [if_neg k1]
    refine Evr.neg (fun h => k1 (by simp only [List.cons.injEq, and_true] at h; obtain ⟨rfl, rfl⟩ := h; rfl)) ?_
    by_cases k2 : (60 == b && 62 == c) = true
    · rw [if_pos k2]
      simp only [Bool.and_eq_true, beq_iff_eq] at k2
      obtain ⟨rfl, rfl⟩ := k2
      exact j3_two s _ 60 62 l hb rfl
    rw [if_neg k2]
    have e : ([b, c] == ([60, 62] : List UInt8)) = false := by
      rw [beq_eq_false_iff_ne]
      exact fun h => k2 (by simp only [List.cons.injEq, and_true] at h; obtain ⟨rfl, rfl⟩ := h; rfl)
    rw [e]
    exact j3_ev s b (c :: l) hb
theorem mk_39 (s : ByteArray) (l : List UInt8) (hb : s.data.toList = 39 :: l) : mk s = (0, ⟨#[]⟩, 0) := by
  unfold mk
  rw [if_pos (lx_at_39 s l hb)]
theorem one_ev (s : ByteArray) (hs : s.size ≤ 1000) (h1 : 1 ≤ s.size) : Evr (fun k => instarref08_one.f k s) (c1 (lx_one s)) := by
  cases hb : s.data.toList with
  | nil => have := dl s; rw [hb] at this; simp at this; omega
  | cons b l =>
    rw [one_eq s b l hb]
    have h0 : 0 < s.data.toList.length := by rw [dl]; omega
    have hbt : bt s 0 = (b.toNat : Int) := by
      have := bt_get h0
      simp only [hb, List.getElem_cons_zero] at this
      exact this
    have hrl := fun p => lx_run_le p s.data.toList
    have hL := dl s
    have hd : s.data.toList.drop 1 = l := by rw [hb]; rfl
    have hqe := quote_ev s hs h1
    rw [hd] at hqe
    unfold instarref08_one.f
    rw [hbt, let_eq, fig_eq]
    refine Evr.pos (by omega) (Evr.bindc rfl (Evr.bindc rfl (Evr.bind (run_ev s hs _) ?_)))
    by_cases a : lx_pL (b.toNat : Int) = true
    · have f : lx_pF (b.toNat : Int) = false := by
        simp only [lx_pL, lx_pF, Bool.or_eq_true, Bool.and_eq_true, decide_eq_true_eq] at a ⊢
        simp; omega
      have hr := hrl (rp true)
      rw [if_pos a]
      rw [a, f]
      refine Evr.pos rfl (Evr.succ ?_)
      simp only [instarref08_one.j0]
      by_cases n : lx_run (rp true) s.data.toList ≤ 20
      · rw [if_pos n]
        exact Evr.pos (by simp; omega) (Evr.pos (by omega) (Evr.pos (by omega) (Evr.const (by simp only [Int.toNat_natCast]))))
      · rw [if_neg n]
        refine Evr.neg (by simp; omega) (Evr.neg (by simp) (Evr.succ ?_))
        simp only [instarref08_one.j1]
        refine Evr.neg (by simp) (Evr.pos (by simp) (Evr.succ ?_))
        simp only [instarref08_one.j2]
        exact Evr.pos (by simp) (Evr.const rfl)
    · have a' : lx_pL (b.toNat : Int) = false := by simpa using a
      rw [if_neg a]
      rw [a']
      refine Evr.neg (by simp) (Evr.succ ?_)
      simp only [instarref08_one.j0]
      refine Evr.neg (by simp) ?_
      have hr := hrl (rp false)
      by_cases f : lx_pF (b.toNat : Int) = true
      · rw [if_pos f]
        rw [f]
        refine Evr.pos rfl (Evr.succ ?_)
        simp only [instarref08_one.j1]
        by_cases n : lx_run (rp false) s.data.toList ≤ 19
        · rw [if_pos n]
          exact Evr.pos (by simp; omega) (Evr.pos (by omega) (Evr.pos (by omega) (Evr.const (by simp only [Int.toNat_natCast]))))
        · rw [if_neg n]
          refine Evr.neg (by simp; omega) (Evr.neg (by simp) (Evr.succ ?_))
          simp only [instarref08_one.j2]
          exact Evr.pos (by simp) (Evr.const rfl)
      · have f' : lx_pF (b.toNat : Int) = false := by simpa using f
        rw [if_neg f]
        rw [f']
        refine Evr.neg (by simp) (Evr.succ ?_)
        simp only [instarref08_one.j1]
        refine Evr.neg (by simp) (Evr.neg (by simp) ?_)
        by_cases q : b = 39
        · subst q
          by_cases z : (lx_qr (lx_q l)).1.size ≤ 200
          · rw [if_pos ⟨rfl, z⟩]
            refine Evr.succ ?_
            simp only [instarref08_one.j2, hbt]
            exact Evr.neg (by simp) (Evr.pos (by omega) (Evr.pos (by decide) (Evr.bind hqe (Evr.neg (by omega) (Evr.const rfl)))))
          · rw [if_neg (fun h => z h.2), mk_39 s l hb]
            refine Evr.succ ?_
            simp only [instarref08_one.j2, hbt]
            exact Evr.neg (by simp) (Evr.pos (by omega) (Evr.pos (by decide) (Evr.bind hqe (Evr.pos (by omega) (Evr.const rfl)))))
        · rw [if_neg (fun h => q h.1)]
          exact marks_ev s b l hb q
end Go.Proofs.YtngeelpfbajppaaDoor.Lw
end
section
namespace Go.Proofs.YtngeelpfbajppaaDoor.Lw
open Go Go.RowKit Go.Proofs.YtngeelpfbajppaaDoorW.PrintWords Go.Proofs.YtngeelpfbajppaaDoor.PA Go.Proofs.YtngeelpfbajppaaDoor.Rk
set_option linter.unusedVariables false
set_option linter.unusedSimpArgs false
theorem q_le : ∀ (l t : List UInt8) (n : Nat), lx_q l = some (t, n) → n ≤ l.length
  | [], t, n, h => by simp [lx_q] at h
  | [b], t, n, h => by
    simp only [lx_q] at h
    split at h
    · simp only [Option.some.injEq, Prod.mk.injEq] at h; obtain ⟨rfl, rfl⟩ := h; simp
    · cases h
  | b :: c :: l, t, n, h => by
    simp only [lx_q] at h
    split at h
    · split at h
      · obtain ⟨x, hx, h⟩ := Option.map_eq_some_iff.1 h
        simp only [Prod.mk.injEq] at h
        have := q_le l x.1 x.2 hx
        simp only [List.length_cons]; omega
      · simp only [Option.some.injEq, Prod.mk.injEq] at h; obtain ⟨rfl, rfl⟩ := h; simp
    · obtain ⟨x, hx, h⟩ := Option.map_eq_some_iff.1 h
      simp only [Prod.mk.injEq] at h
      have := q_le (c :: l) x.1 x.2 hx
      simp only [List.length_cons] at this ⊢; omega
theorem at_hit (s : ByteArray) : ∀ n i (j : Nat), lx_at s n i = (j : Int) → Lib.hasPrefix s.data.toList (lx_marks.getD j ByteArray.empty).data.toList = true
  | 0, i, j, h => by simp [lx_at] at h
  | n + 1, i, j, h => by
    unfold lx_at at h
    split at h
    · rename_i hp
      have : i = j := by omega
      subst this; exact hp
    · exact at_hit s n (i + 1) j h
theorem mk_le (s : ByteArray) : 0 ≤ (mk s).2.2 ∧ (mk s).2.2 ≤ s.size := by
  unfold mk
  rcases lx_at_cases s 12 0 with h | ⟨j, h1, h2⟩
  · rw [if_pos h]; simp
  · rw [if_neg (by omega), h2, Int.toNat_natCast]
    have hp := at_hit s 12 0 j h2
    have hl := (List.isPrefixOf_iff_prefix.1 hp).length_le
    rw [dl, dl] at hl
    exact ⟨by simp only; omega, by simp only; omega⟩
theorem one_le (s : ByteArray) : 0 ≤ (lx_one s).2.2 ∧ (lx_one s).2.2 ≤ s.size := by
  cases hb : s.data.toList with
  | nil => unfold lx_one; rw [hb]; simp
  | cons b l =>
    rw [one_eq s b l hb]
    have h1 := lx_run_le (rp true) s.data.toList
    have h2 := lx_run_le (rp false) s.data.toList
    have hz := dl s
    split
    · split
      · exact ⟨by simp only; omega, by simp only; omega⟩
      · simp
    split
    · split
      · exact ⟨by simp only; omega, by simp only; omega⟩
      · simp
    split
    · cases hq : lx_q l with
      | none => simp [lx_qr]
      | some x =>
        have := q_le l x.1 x.2 hq
        rw [hb, List.length_cons] at hz
        simp only [lx_qr]
        exact ⟨by omega, by omega⟩
    · exact mk_le s
def blank (b : UInt8) : Bool := ([32, 9, 10] : List UInt8).contains b
def wd (s : ByteArray) : Nat → List S35 → Nat → List S35 × Int × Int
  | 0, acc, i => (acc, 0, 0)
  | n + 1, acc, i =>
    if i < s.size then
      if blank (s.data.toList.getD i 0) = true then wd s n acc (i + 1)
      else if (lx_one (s.extract i s.size)).2.2 = 0 then ([], (i : Int), 81)
      else wd s n (acc ++ [⟨(lx_one (s.extract i s.size)).1, (lx_one (s.extract i s.size)).2.1, (i : Int)⟩]) (i + (lx_one (s.extract i s.size)).2.2.toNat)
    else (acc, 0, 0)
theorem wd_len (s : ByteArray) : ∀ n acc i, (wd s n acc i).1.length ≤ acc.length + n
  | 0, acc, i => by simp [wd]
  | n + 1, acc, i => by
    unfold wd
    split
    · split
      · have := wd_len s n acc (i + 1); omega
      · split
        · simp
        · have := wd_len s n (acc ++ [⟨(lx_one (s.extract i s.size)).1, (lx_one (s.extract i s.size)).2.1, (i : Int)⟩]) (i + (lx_one (s.extract i s.size)).2.2.toNat)
          rw [List.length_append] at this
          simp only [List.length_cons, List.length_nil] at this
          omega
    · simp
def tl (s : ByteArray) (i : Nat) : Nat := ((s.data.toList.drop i).dropWhile blank).length
theorem dw_le (p : UInt8 → Bool) : ∀ l : List UInt8, (l.dropWhile p).length ≤ l.length
  | [] => Nat.le_refl _
  | b :: l => by
    have := dw_le p l
    rw [List.dropWhile_cons]
    split
    · simp only [List.length_cons]; omega
    · exact Nat.le_refl _
theorem tl_le (s : ByteArray) (i : Nat) : tl s i ≤ s.size - i := by
  have := dw_le blank (s.data.toList.drop i)
  rw [List.length_drop, dl] at this
  exact this
theorem trim_eq (s : ByteArray) (i : Nat) : ∃ T, strings_TrimLeft.f (s.extract i s.size) (⟨#[32, 9, 10]⟩ : ByteArray) = some T ∧ T.size = tl s i := by
  refine ⟨_, by unfold strings_TrimLeft.f; rw [if_pos (by decide), if_pos (by decide)], ?_⟩
  rw [← dl]
  simp only [Lib.trimLeftS, ext_drop]
  rfl
def rnd (k : Nat) (s : ByteArray) (acc : List S35) (p : Nat) : Option (List S35 × Int × Int) :=
  if (p : Int) = (s.size : Int) then some (acc, 0, 0) else (lex_one.f (s.extract p s.size)).bind fun bt => if bt.2.2.2 = 0 then some ([], (p : Int), 81) else if acc.length < 4398046511104 then lex_Words.l0 k s (acc ++ [(⟨bt.1, bt.2.1, (p : Int)⟩ : S35)]) (wrap64 ((p : Int) + bt.2.2.2)) else none
theorem step_eq (k : Nat) (s : ByteArray) (acc : List S35) (i : Nat) (hs : s.size ≤ 1000) (hi : i ≤ s.size) : lex_Words.l0 (k + 1) s acc (i : Int) = rnd k s acc (s.size - tl s i) := by
  obtain ⟨T, h1, h2⟩ := trim_eq s i
  have h3 := tl_le s i
  have e1 : wrap64 ((i : Int) + wrap64 (((s.size - i : Nat) : Int) - (T.size : Int))) = ((s.size - tl s i : Nat) : Int) := by
    rw [wrap_eq (x := ((s.size - i : Nat) : Int) - (T.size : Int)) (by omega) (by omega), wrap_eq (by omega) (by omega)]
    omega
  simp only [lex_Words.l0, Int.toNat_natCast, h1, Option.bind_some, e1]
  rw [if_pos (by omega), if_pos (by omega)]
  unfold rnd
  by_cases c : ((s.size - tl s i : Nat) : Int) = (s.size : Int)
  · rw [if_pos c, if_pos c]
  · rw [if_neg c, if_neg c, if_pos (by omega), if_pos (by omega)]
theorem getD_get {l : List UInt8} {i : Nat} (h : i < l.length) : l.getD i 0 = l[i] := by rw [List.getD_eq_getElem?_getD, List.getElem?_eq_getElem h]; rfl
theorem tl_blank {s : ByteArray} {i : Nat} (h : i < s.size) (hb : blank (s.data.toList.getD i 0) = true) : tl s i = tl s (i + 1) := by
  have h' : i < s.data.toList.length := by rw [dl]; exact h
  rw [getD_get h'] at hb
  unfold tl
  rw [List.drop_eq_getElem_cons h', List.dropWhile_cons, if_pos hb]
theorem tl_word {s : ByteArray} {i : Nat} (h : i < s.size) (hb : ¬ blank (s.data.toList.getD i 0) = true) : tl s i = s.size - i := by
  have h' : i < s.data.toList.length := by rw [dl]; exact h
  rw [getD_get h'] at hb
  unfold tl
  rw [List.drop_eq_getElem_cons h', List.dropWhile_cons, if_neg hb, ← List.drop_eq_getElem_cons h', List.length_drop, dl]
theorem same_step (s : ByteArray) (acc : List S35) (i : Nat) (hs : s.size ≤ 1000) (h : i < s.size) (hb : blank (s.data.toList.getD i 0) = true) (k : Nat) : lex_Words.l0 k s acc (i : Int) = lex_Words.l0 k s acc ((i + 1 : Nat) : Int) := by
  cases k with
  | zero => rfl
  | succ k => rw [step_eq k s acc i hs (by omega), step_eq k s acc (i + 1) hs (by omega), tl_blank h hb]
theorem wp_l (s : ByteArray) (hs : s.size ≤ 1000) : ∀ n acc i, s.size < n + i → i ≤ s.size → acc.length ≤ i → Evr (fun k => lex_Words.l0 k s acc (i : Int)) (wd s n acc i)
  | 0, acc, i, h1, h2, h3 => by omega
  | n + 1, acc, i, h1, h2, h3 => by
    unfold wd
    by_cases c : i < s.size
    · rw [if_pos c]
      by_cases b : blank (s.data.toList.getD i 0) = true
      · rw [if_pos b]
        have ih := wp_l s hs n acc (i + 1) (by omega) (by omega) (by omega)
        simp only [same_step s acc i hs c b]
        exact ih
      · rw [if_neg b]
        have hz := ext_size s i
        have ho := one_le (s.extract i s.size)
        rw [hz] at ho
        have hf : lex_one.f (s.extract i s.size) = some (c1 (lx_one (s.extract i s.size))) := by
          unfold lex_one.f
          rw [if_pos (by omega), if_pos (by omega)]
        have hst : ∀ k, lex_Words.l0 (k + 1) s acc (i : Int) = rnd k s acc i := fun k => by
          rw [step_eq k s acc i hs (by omega), tl_word c b, show s.size - (s.size - i) = i by omega]
        refine Evr.succ ?_
        simp only [hst, rnd]
        refine Evr.neg (by omega) (Evr.bindc hf ?_)
        by_cases z : (lx_one (s.extract i s.size)).2.2 = 0
        · rw [if_pos z]
          exact Evr.pos z (Evr.const rfl)
        · rw [if_neg z]
          refine Evr.neg z (Evr.pos (by omega) ?_)
          have e : wrap64 ((i : Int) + (lx_one (s.extract i s.size)).2.2) = ((i + (lx_one (s.extract i s.size)).2.2.toNat : Nat) : Int) := by rw [wrap_eq (by omega) (by omega)]; omega
          show Evr (fun k => lex_Words.l0 k s (acc ++ [⟨(lx_one (s.extract i s.size)).1, (lx_one (s.extract i s.size)).2.1, (i : Int)⟩]) (wrap64 ((i : Int) + (lx_one (s.extract i s.size)).2.2))) _
          rw [e]
          exact wp_l s hs n _ _ (by omega) (by omega) (by rw [List.length_append]; simp only [List.length_cons, List.length_nil]; omega)
    · rw [if_neg c]
      have hi : i = s.size := by omega
      have ht : tl s i = 0 := by have := tl_le s i; omega
      have hst : ∀ k, lex_Words.l0 (k + 1) s acc (i : Int) = some (acc, 0, 0) := fun k => by
        rw [step_eq k s acc i hs h2, ht]
        unfold rnd
        rw [if_pos (by omega)]
      refine Evr.succ ?_
      simp only [hst]
      exact Evr.const rfl
theorem words_ev (s : ByteArray) (hs : s.size ≤ 1000) : Evr (fun k => lex_Words.f k s) (wd s (s.size + 1) [] 0) := by
  unfold lex_Words.f
  exact wp_l s hs (s.size + 1) [] 0 (by omega) (Nat.zero_le _) (Nat.zero_le _)
def conv (y : S35) : S44 := ⟨y.f0, y.f1, y.f2⟩
def cw (x : List S35 × Int × Int) : List S44 × Int × Int := (x.1.map conv, x.2)
theorem wr_l (s : ByteArray) (hs : s.size ≤ 1000) : ∀ n (acc : List S35) i, s.size < n + i → i ≤ s.size → acc.length ≤ i → Evr (fun k => instarref08_Words.l0 k s (acc.map conv) (i : Int)) (cw (wd s n acc i))
  | 0, acc, i, h1, h2, h3 => by omega
  | n + 1, acc, i, h1, h2, h3 => by
    unfold wd
    by_cases c : i < s.size
    · have c' : i < s.data.toList.length := by rw [dl]; exact c
      rw [if_pos c]
      refine Evr.succ ?_
      simp only [instarref08_Words.l0, bt_get c']
      rw [getD_get c']
      refine Evr.pos (by omega) (Evr.pos (by omega) ?_)
      have ihb := wr_l s hs n acc (i + 1) (by omega) (by omega) (by omega)
      have e1 : wrap64 ((i : Int) + 1) = ((i + 1 : Nat) : Int) := wrap_nat (by omega)
      have jb : Evr (fun k => instarref08_Words.j1 k s (acc.map conv) (i : Int) true) (cw (wd s n acc (i + 1))) := by
        refine Evr.succ ?_
        simp only [instarref08_Words.j1, e1]
        exact Evr.pos (by simp) ihb
      have hz := ext_size s i
      have ho := one_le (s.extract i s.size)
      rw [hz] at ho
      have jn : Evr (fun k => instarref08_Words.j1 k s (acc.map conv) (i : Int) false) (cw (if (lx_one (s.extract i s.size)).2.2 = 0 then ([], (i : Int), 81) else wd s n (acc ++ [⟨(lx_one (s.extract i s.size)).1, (lx_one (s.extract i s.size)).2.1, (i : Int)⟩]) (i + (lx_one (s.extract i s.size)).2.2.toNat))) := by
        refine Evr.succ ?_
        simp only [instarref08_Words.j1, Int.toNat_natCast]
        refine Evr.neg (by simp) (Evr.pos (by omega) (Evr.pos (by omega) (Evr.bind (one_ev (s.extract i s.size) (by omega) (by omega)) ?_)))
        by_cases z : (lx_one (s.extract i s.size)).2.2 = 0
        · rw [if_pos z]
          exact Evr.pos z (Evr.const rfl)
        · rw [if_neg z]
          refine Evr.neg z (Evr.pos (by rw [List.length_map]; omega) ?_)
          have e : wrap64 ((i : Int) + (lx_one (s.extract i s.size)).2.2) = ((i + (lx_one (s.extract i s.size)).2.2.toNat : Nat) : Int) := by rw [wrap_eq (by omega) (by omega)]; omega
          show Evr (fun k => instarref08_Words.l0 k s (acc.map conv ++ [⟨(lx_one (s.extract i s.size)).1, (lx_one (s.extract i s.size)).2.1, (i : Int)⟩]) (wrap64 ((i : Int) + (lx_one (s.extract i s.size)).2.2))) _
          rw [e]
          have ih := wr_l s hs n (acc ++ [⟨(lx_one (s.extract i s.size)).1, (lx_one (s.extract i s.size)).2.1, (i : Int)⟩]) (i + (lx_one (s.extract i s.size)).2.2.toNat) (by omega) (by omega) (by rw [List.length_append]; simp only [List.length_cons, List.length_nil]; omega)
          rw [List.map_append] at ih
          exact ih
      generalize s.data.toList[i]'c' = B at jn ⊢
      have hm : ∀ m : UInt8, ¬ B = m → ¬ (B.toNat : Int) = (m.toNat : Int) := fun m h e => h (UInt8.toNat_inj.1 (by omega))
      by_cases b1 : B = 32
      · subst b1
        rw [if_pos (by decide)]
        exact Evr.pos rfl jb
      by_cases b2 : B = 9
      · subst b2
        rw [if_pos (by decide)]
        exact Evr.neg (by decide) (Evr.pos rfl jb)
      by_cases b3 : B = 10
      · subst b3
        rw [if_pos (by decide)]
        exact Evr.neg (by decide) (Evr.neg (by decide) jb)
      · rw [if_neg (by simp [blank, b1, b2, b3])]
        have e10 : ((B.toNat : Int) == 10) = false := by
          rw [beq_eq_false_iff_ne]
          exact hm 10 b3
        refine Evr.neg (hm 32 b1) (Evr.neg (hm 9 b2) ?_)
        rw [e10]
        exact jn
    · rw [if_neg c]
      refine Evr.succ ?_
      simp only [instarref08_Words.l0]
      exact Evr.neg (by omega) (Evr.const rfl)
theorem rwords_ev (s : ByteArray) (hs : s.size ≤ 1000) : Evr (fun k => instarref08_Words.f k s) (cw (wd s (s.size + 1) [] 0)) := by
  unfold instarref08_Words.f
  exact wr_l s hs (s.size + 1) [] 0 (by omega) (Nat.zero_le _) (Nat.zero_le _)
end Go.Proofs.YtngeelpfbajppaaDoor.Lw
end
