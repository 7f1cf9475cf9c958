/- For every input the law instar/instarlaw08.LexTexts returns true, and each argument reads afterwards as it read before; no condition but the row's own (what the listed variables hold, which the card ties to the program's text). -/
import Derived.Test.YtngeelpfbajppaaDoorCLexTexts0
import Derived.Test.YtngeelpfbajppaaDoorCLexTexts1
import Derived.Deep.Slices
import Derived.Lib.SmallJoins
import Derived.SizedLaws
import Derived.Lib.Strings
import Derived.Lib.Replace
import Derived.Laws.BytesArg
import Derived.Lib.CountLaws
import Derived.Lib.IndexBytes
import Derived.Laws.BitsAllLaws
import Derived.Test.YtngeelpfbajppaaDoorRows
import Derived.Lib.LaidU8
import Derived.Lib.LaidTab
import Derived.Shelf.LaysM
import Derived.Test.YtngeelpfbajppaaDoorCards
import Derived.Test.YtngeelpfbajppaaDoorTie
import Derived.WalkKit
import Derived.ProofKit
import Derived.OpenShut
import Derived.ShutString
import Derived.ChangeOld
import Derived.Below
import Derived.Deep.DeepHandedRow
import Derived.Deep.DeepWitnessRowRef
import Derived.Lay
import Derived.LaidOnce
import Derived.SevenTiedAt
section
namespace Go.Proofs.YtngeelpfbajppaaDoor.PB
open Go.RowKit Go.Proofs.YtngeelpfbajppaaDoorW.PrintWords Go.Proofs.YtngeelpfbajppaaDoorW.PrintLast Go.Proofs.YtngeelpfbajppaaDoorW.PrintMore
attribute [local go_sem] max2_int min2_int max_two min_two max_three min_three max_four min_four
attribute [local go_sem high] Go.Proofs.YtngeelpfbajppaaDoor.Bs.gtr_bl Go.Proofs.YtngeelpfbajppaaDoor.Bs.leq_bl Go.Proofs.YtngeelpfbajppaaDoor.Bs.cell_set2
set_option linter.unusedVariables false
set_option linter.unusedSimpArgs false
def instarref03_Right.j0 : Nat → Bool → Int → Int → ByteArray → Option (Bool)
  | 0, _, _, _, _ => none
  | k + 1, x10, x102000, x102001, x102002 => if x10 = true then (some false) else (if x102000 = 0 then (some (x102001 == 0)) else (if x102000 = 1 then (if x102001 = 0 then (some true) else (some (x102001 == 1))) else (if x102000 = 2 then (if x102001 ≥ (-2147483648) then (some (decide (x102001 ≤ 2147483647))) else (some false)) else (if x102000 = 3 then (some true) else (if x102000 = 4 then (if x102001 = 0 then (some (decide ((x102002.size : Int) ≤ 200))) else (some false)) else (some false))))))
def instarref03_Right.f (k : Nat) (a0_0 : Int) (a0_1 : Int) (a0_2 : ByteArray) : Option (Bool) := if a0_0 = 4 then (instarref03_Right.j0 k false a0_0 a0_1 a0_2) else (instarref03_Right.j0 k (a0_2.toList != ([] : List UInt8)) a0_0 a0_1 a0_2)
theorem instarref03_Right.mono_l : ∀ k, (∀ y0 y1 y2 y3, LeO (instarref03_Right.j0 k y0 y1 y2 y3) (instarref03_Right.j0 (k + 1) y0 y1 y2 y3))
  | 0 => fun _ _ _ _ r h => by simp [instarref03_Right.j0] at h
  | k + 1 => by
    have ih0 := instarref03_Right.mono_l k
    · intro y0 y1 y2 y3
      unfold instarref03_Right.j0
      repeat' first
      | (with_reducible exact ih0 _ _ _ _)
      | (with_reducible exact LeO.refl _)
      | (with_reducible exact LeO.none _)
      | (with_reducible refine LeO.ite ?_ ?_)
      | (with_reducible refine LeO.bind ?_ (fun _ => ?_))
      | exact ih0 _ _ _ _
      | exact LeO.none _
      | refine LeO.ite ?_ ?_
      | refine LeO.bind ?_ (fun _ => ?_)
theorem instarref03_Right.mono : ∀ a0 a1 a2 k, LeO (instarref03_Right.f k a0 a1 a2) (instarref03_Right.f (k + 1) a0 a1 a2) := by
  intro a0 a1 a2 k
  have ih0 := instarref03_Right.mono_l k
  unfold instarref03_Right.f
  repeat' first
      | (with_reducible exact ih0 _ _ _ _)
      | (with_reducible exact LeO.refl _)
      | (with_reducible exact LeO.none _)
      | (with_reducible refine LeO.ite ?_ ?_)
      | (with_reducible refine LeO.bind ?_ (fun _ => ?_))
      | exact ih0 _ _ _ _
      | exact LeO.none _
      | refine LeO.ite ?_ ?_
      | refine LeO.bind ?_ (fun _ => ?_)
set_option maxHeartbeats 8000000 in
set_option maxRecDepth 100000 in
theorem instarref03_Right.calls (k : Nat) (a0_0 : Int) (a0_1 : Int) (a0_2 : ByteArray) (r : Bool) (w : World) (h : instarref03_Right.f k a0_0 a0_1 a0_2 = some r) :
    Calls Tryd.prog 49 #[.agg #[.int .i64 a0_0, .int .i64 a0_1, .string a0_2]] w fun e w' => e = .returned (.bool r) ∧ Below w.heap.size w w' := by
  have hu52 := Tryd.underlying52
  have HB := Aside0.mk (Below.refl w.heap.size w)
  have H : (if a0_0 = 4 then (instarref03_Right.j0 k false a0_0 a0_1 a0_2) else (instarref03_Right.j0 k (a0_2.toList != ([] : List UInt8)) a0_0 a0_1 a0_2)) = some r := h
  clear h
  have HC2 := Aside0.mk H
  clear H
  go_enter Tryd.func49, Tryd.ntmps49
  go_upto_region 1 with (first | ((with_reducible refine gate_dst (N := 1) rfl ?_); (try (refine gate_guard (by rfl) ?_; dsimp only)); refine box_event ?hg (N := 1) ?hd (cs := #[.int .i64 a0_0, .int .i64 a0_1, .string a0_2]) (t := 52) ?hr ?_; (case hd => rfl); (case hg => rfl); (case hr => first | (go_simp; done) | (go_simp; rfl)); intro gb101 hg w3 hbox hb; have n0_ := Aside0.mk (below_step (by repeat (first | (with_reducible first | exact HB.out | apply below_alloc | apply pw_below_drewN | apply below_drew1) | exact HB.out)) hb); have n1_ := Aside0.mk (hbox); have n2_ := Aside0.mk ((by rw [hg]; exact (below_size (by repeat (first | (with_reducible first | exact HB.out | apply below_alloc | apply pw_below_drewN | apply below_drew1) | exact HB.out))) : w.heap.size ≤ gb101)); have n3_ := Aside0.mk ((by rw [hg]; exact (below_size (by repeat (first | (with_reducible first | exact HB.out | apply below_alloc | apply pw_below_drewN | apply below_drew1) | exact HB.out))) : w.heap.size ≤ gb101)); clear HB; have HB := n0_; have BK101 := n1_; have GW101 := n2_; have GE101 := n3_; clear n0_ n1_ n2_ n3_; clear hb hbox hg))
  (try simp only [Act.put, List.setIfInBounds_toArray, List.set_cons_zero, List.set_cons_succ])
  go_cut [10] (fun v10 wc => ∃ (kq : Nat) (x10_1 : Bool), v10 = .bool x10_1 ∧ Aside0 (instarref03_Right.j0 kq x10_1 a0_0 a0_1 a0_2 = some r) ∧ Aside0 (kq ≤ k) ∧ Aside0 (wc.heap[gb101]? = some (.cells #[.int .i64 a0_0, .int .i64 a0_1, .string a0_2] 52 (0, 0))) ∧ Aside0 (Below w.heap.size w wc))
  case first =>
    have H := HC2.out
    clear HC2
    by_cases c4 : a0_0 = 4
    · rw [if_pos c4] at H
      have c4b0 : (a0_0 == 4) = true := beq_iff_eq.mpr c4
      have c4b1 : (a0_0 != 4) = false := bne_eq_false_iff_eq.mpr c4
      clear c4
      (first | rw [c4b0] | (simp only [i64_w, i32_w]; rw [c4b0]) | skip)
      have H' := Aside0.mk H
      clear H
      have hcz5_0 : w3.cell? ⟨gb101, 0, none⟩ = some (.int .i64 a0_0) := (blk_cell BK101.out 0).trans rfl
      have hcz5_1 : w3.cell? ⟨gb101, 1, none⟩ = some (.int .i64 a0_1) := (blk_cell BK101.out 1).trans rfl
      have hcz5_2 : w3.cell? ⟨gb101, 2, none⟩ = some (.string a0_2) := (blk_cell BK101.out 2).trans rfl
      have hfz5_0 := blk_frozen BK101.out 0
      have hfz5_1 := blk_frozen BK101.out 1
      have hfz5_2 := blk_frozen BK101.out 2
      go_wp2
      go_meet
      case rel => exact ⟨_, (false), (by first | rfl | (simp; done) | (simp [*]; done) | (simp [Go.Proofs.YtngeelpfbajppaaDoor.Bs.isEmpty_bne, Go.Proofs.YtngeelpfbajppaaDoor.Bs.isEmpty_beq]; done)), H', ⟨by first | omega | exact Nat.le_refl _⟩, ⟨by (with_reducible repeat (first | refine blk_drewN ?_ _ | refine blk_drew ?_ | refine blk_alloc ?_ _)); exact BK101.out⟩, ⟨by repeat (first | (with_reducible first | exact HB.out | apply below_alloc | apply pw_below_drewN | apply below_drew1 | refine below_set ?_ GE101.out) | exact HB.out)⟩⟩
    · rw [if_neg c4] at H
      have c4b0 : (a0_0 == 4) = false := beq_eq_false_iff_ne.mpr c4
      have c4b1 : (a0_0 != 4) = true := bne_iff_ne.mpr c4
      (first | rw [c4b0] | (simp only [i64_w, i32_w]; rw [c4b0]) | skip)
      have H' := Aside0.mk H
      clear H
      have hcz6_0 : w3.cell? ⟨gb101, 0, none⟩ = some (.int .i64 a0_0) := (blk_cell BK101.out 0).trans rfl
      have hcz6_1 : w3.cell? ⟨gb101, 1, none⟩ = some (.int .i64 a0_1) := (blk_cell BK101.out 1).trans rfl
      have hcz6_2 : w3.cell? ⟨gb101, 2, none⟩ = some (.string a0_2) := (blk_cell BK101.out 2).trans rfl
      have hfz6_0 := blk_frozen BK101.out 0
      have hfz6_1 := blk_frozen BK101.out 1
      have hfz6_2 := blk_frozen BK101.out 2
      go_wp2
      go_meet
      case rel => exact ⟨_, ((a0_2.toList != ([] : List UInt8))), (by first | rfl | (simp; done) | (simp [*]; done) | (simp [Go.Proofs.YtngeelpfbajppaaDoor.Bs.isEmpty_bne, Go.Proofs.YtngeelpfbajppaaDoor.Bs.isEmpty_beq]; done)), H', ⟨by first | omega | exact Nat.le_refl _⟩, ⟨by (with_reducible repeat (first | refine blk_drewN ?_ _ | refine blk_drew ?_ | refine blk_alloc ?_ _)); exact BK101.out⟩, ⟨by repeat (first | (with_reducible first | exact HB.out | apply below_alloc | apply pw_below_drewN | apply below_drew1 | refine below_set ?_ GE101.out) | exact HB.out)⟩⟩
  case rest =>
    clear HC2
    try clear p2
    try clear c4
    try clear c4b0
    try clear c4b1
    try clear hcz5_0
    try clear hcz5_1
    try clear hcz5_2
    try clear hcz6_0
    try clear hcz6_1
    try clear hcz6_2
    try clear hfz5_0
    try clear hfz5_1
    try clear hfz5_2
    try clear hfz6_0
    try clear hfz6_1
    try clear hfz6_2
    obtain ⟨kq, x10_1, rfl, HA, HJ1, BK101, HB⟩ := hcut
    cases kq with
    | zero => exact absurd HA.out (by simp [instarref03_Right.j0])
    | succ kj1 =>
      have H := HA.out
      clear HA
      simp only [instarref03_Right.j0] at H
      by_cases c7 : x10_1 = true
      · subst c7
        have H1 : (some false) = some r := by rw [if_pos rfl] at H; exact H
        clear H
        have H := H1
        clear H1
        obtain rfl := Option.some.inj H
        go_wp2
        go_ret
        exact ⟨by first | rfl | (simp [errW_none, errW_some] <;> rfl) | (simp [*, errW_none, errW_some] <;> rfl), by repeat (first | (with_reducible first | exact HB.out | apply below_alloc | apply pw_below_drewN | apply below_drew1 | refine below_set ?_ GE101.out) | exact HB.out)⟩
      · replace c7 := Bool.eq_false_iff.mpr c7
        subst c7
        have H1 : (if a0_0 = 0 then (some (a0_1 == 0)) else (if a0_0 = 1 then (if a0_1 = 0 then (some true) else (some (a0_1 == 1))) else (if a0_0 = 2 then (if a0_1 ≥ (-2147483648) then (some (decide (a0_1 ≤ 2147483647))) else (some false)) else (if a0_0 = 3 then (some true) else (if a0_0 = 4 then (if a0_1 = 0 then (some (decide ((a0_2.size : Int) ≤ 200))) else (some false)) else (some false)))))) = some r := by rw [if_neg (show ¬ (false = true) by decide)] at H; exact H
        clear H
        have H := H1
        clear H1
        by_cases c8 : a0_0 = 0
        · rw [if_pos c8] at H
          have c8b0 : (a0_0 == 0) = true := beq_iff_eq.mpr c8
          have c8b1 : (a0_0 != 0) = false := bne_eq_false_iff_eq.mpr c8
          clear c8
          obtain rfl := Option.some.inj H
          have hcz9_0 : wc.cell? ⟨gb101, 0, none⟩ = some (.int .i64 a0_0) := (blk_cell BK101.out 0).trans rfl
          have hcz9_1 : wc.cell? ⟨gb101, 1, none⟩ = some (.int .i64 a0_1) := (blk_cell BK101.out 1).trans rfl
          have hcz9_2 : wc.cell? ⟨gb101, 2, none⟩ = some (.string a0_2) := (blk_cell BK101.out 2).trans rfl
          have hfz9_0 := blk_frozen BK101.out 0
          have hfz9_1 := blk_frozen BK101.out 1
          have hfz9_2 := blk_frozen BK101.out 2
          go_wp2
          go_ret
          exact ⟨by first | rfl | (simp [errW_none, errW_some] <;> rfl) | (simp [*, errW_none, errW_some] <;> rfl), by repeat (first | (with_reducible first | exact HB.out | apply below_alloc | apply pw_below_drewN | apply below_drew1 | refine below_set ?_ GE101.out) | exact HB.out)⟩
        · rw [if_neg c8] at H
          have c8b0 : (a0_0 == 0) = false := beq_eq_false_iff_ne.mpr c8
          have c8b1 : (a0_0 != 0) = true := bne_iff_ne.mpr c8
          by_cases c10 : a0_0 = 1
          · rw [if_pos c10] at H
            have c10b0 : (a0_0 == 1) = true := beq_iff_eq.mpr c10
            have c10b1 : (a0_0 != 1) = false := bne_eq_false_iff_eq.mpr c10
            clear c10
            by_cases c11 : a0_1 = 0
            · rw [if_pos c11] at H
              have c11b0 : (a0_1 == 0) = true := beq_iff_eq.mpr c11
              have c11b1 : (a0_1 != 0) = false := bne_eq_false_iff_eq.mpr c11
              clear c11
              obtain rfl := Option.some.inj H
              have hcz12_0 : wc.cell? ⟨gb101, 0, none⟩ = some (.int .i64 a0_0) := (blk_cell BK101.out 0).trans rfl
              have hcz12_1 : wc.cell? ⟨gb101, 1, none⟩ = some (.int .i64 a0_1) := (blk_cell BK101.out 1).trans rfl
              have hcz12_2 : wc.cell? ⟨gb101, 2, none⟩ = some (.string a0_2) := (blk_cell BK101.out 2).trans rfl
              have hfz12_0 := blk_frozen BK101.out 0
              have hfz12_1 := blk_frozen BK101.out 1
              have hfz12_2 := blk_frozen BK101.out 2
              go_wp2
              go_ret
              exact ⟨by first | rfl | (simp [errW_none, errW_some] <;> rfl) | (simp [*, errW_none, errW_some] <;> rfl), by repeat (first | (with_reducible first | exact HB.out | apply below_alloc | apply pw_below_drewN | apply below_drew1 | refine below_set ?_ GE101.out) | exact HB.out)⟩
            · rw [if_neg c11] at H
              have c11b0 : (a0_1 == 0) = false := beq_eq_false_iff_ne.mpr c11
              have c11b1 : (a0_1 != 0) = true := bne_iff_ne.mpr c11
              obtain rfl := Option.some.inj H
              have hcz13_0 : wc.cell? ⟨gb101, 0, none⟩ = some (.int .i64 a0_0) := (blk_cell BK101.out 0).trans rfl
              have hcz13_1 : wc.cell? ⟨gb101, 1, none⟩ = some (.int .i64 a0_1) := (blk_cell BK101.out 1).trans rfl
              have hcz13_2 : wc.cell? ⟨gb101, 2, none⟩ = some (.string a0_2) := (blk_cell BK101.out 2).trans rfl
              have hfz13_0 := blk_frozen BK101.out 0
              have hfz13_1 := blk_frozen BK101.out 1
              have hfz13_2 := blk_frozen BK101.out 2
              go_wp2
              go_ret
              exact ⟨by first | rfl | (simp [errW_none, errW_some] <;> rfl) | (simp [*, errW_none, errW_some] <;> rfl), by repeat (first | (with_reducible first | exact HB.out | apply below_alloc | apply pw_below_drewN | apply below_drew1 | refine below_set ?_ GE101.out) | exact HB.out)⟩
          · rw [if_neg c10] at H
            have c10b0 : (a0_0 == 1) = false := beq_eq_false_iff_ne.mpr c10
            have c10b1 : (a0_0 != 1) = true := bne_iff_ne.mpr c10
            by_cases c14 : a0_0 = 2
            · rw [if_pos c14] at H
              have c14b0 : (a0_0 == 2) = true := beq_iff_eq.mpr c14
              have c14b1 : (a0_0 != 2) = false := bne_eq_false_iff_eq.mpr c14
              clear c14
              by_cases c15 : a0_1 ≥ (-2147483648)
              · rw [if_pos c15] at H
                have c15b0 : decide ((-2147483648) ≤ a0_1) = true := decide_eq_true c15
                clear c15
                obtain rfl := Option.some.inj H
                have hcz16_0 : wc.cell? ⟨gb101, 0, none⟩ = some (.int .i64 a0_0) := (blk_cell BK101.out 0).trans rfl
                have hcz16_1 : wc.cell? ⟨gb101, 1, none⟩ = some (.int .i64 a0_1) := (blk_cell BK101.out 1).trans rfl
                have hcz16_2 : wc.cell? ⟨gb101, 2, none⟩ = some (.string a0_2) := (blk_cell BK101.out 2).trans rfl
                have hfz16_0 := blk_frozen BK101.out 0
                have hfz16_1 := blk_frozen BK101.out 1
                have hfz16_2 := blk_frozen BK101.out 2
                go_wp2
                go_ret
                exact ⟨by first | rfl | (simp [errW_none, errW_some] <;> rfl) | (simp [*, errW_none, errW_some] <;> rfl), by repeat (first | (with_reducible first | exact HB.out | apply below_alloc | apply pw_below_drewN | apply below_drew1 | refine below_set ?_ GE101.out) | exact HB.out)⟩
              · rw [if_neg c15] at H
                have c15b0 : decide ((-2147483648) ≤ a0_1) = false := decide_eq_false c15
                clear c15
                obtain rfl := Option.some.inj H
                have hcz17_0 : wc.cell? ⟨gb101, 0, none⟩ = some (.int .i64 a0_0) := (blk_cell BK101.out 0).trans rfl
                have hcz17_1 : wc.cell? ⟨gb101, 1, none⟩ = some (.int .i64 a0_1) := (blk_cell BK101.out 1).trans rfl
                have hcz17_2 : wc.cell? ⟨gb101, 2, none⟩ = some (.string a0_2) := (blk_cell BK101.out 2).trans rfl
                have hfz17_0 := blk_frozen BK101.out 0
                have hfz17_1 := blk_frozen BK101.out 1
                have hfz17_2 := blk_frozen BK101.out 2
                go_wp2
                go_ret
                exact ⟨by first | rfl | (simp [errW_none, errW_some] <;> rfl) | (simp [*, errW_none, errW_some] <;> rfl), by repeat (first | (with_reducible first | exact HB.out | apply below_alloc | apply pw_below_drewN | apply below_drew1 | refine below_set ?_ GE101.out) | exact HB.out)⟩
            · rw [if_neg c14] at H
              have c14b0 : (a0_0 == 2) = false := beq_eq_false_iff_ne.mpr c14
              have c14b1 : (a0_0 != 2) = true := bne_iff_ne.mpr c14
              by_cases c18 : a0_0 = 3
              · rw [if_pos c18] at H
                have c18b0 : (a0_0 == 3) = true := beq_iff_eq.mpr c18
                have c18b1 : (a0_0 != 3) = false := bne_eq_false_iff_eq.mpr c18
                clear c18
                obtain rfl := Option.some.inj H
                have hcz19_0 : wc.cell? ⟨gb101, 0, none⟩ = some (.int .i64 a0_0) := (blk_cell BK101.out 0).trans rfl
                have hcz19_1 : wc.cell? ⟨gb101, 1, none⟩ = some (.int .i64 a0_1) := (blk_cell BK101.out 1).trans rfl
                have hcz19_2 : wc.cell? ⟨gb101, 2, none⟩ = some (.string a0_2) := (blk_cell BK101.out 2).trans rfl
                have hfz19_0 := blk_frozen BK101.out 0
                have hfz19_1 := blk_frozen BK101.out 1
                have hfz19_2 := blk_frozen BK101.out 2
                go_wp2
                go_ret
                exact ⟨by first | rfl | (simp [errW_none, errW_some] <;> rfl) | (simp [*, errW_none, errW_some] <;> rfl), by repeat (first | (with_reducible first | exact HB.out | apply below_alloc | apply pw_below_drewN | apply below_drew1 | refine below_set ?_ GE101.out) | exact HB.out)⟩
              · rw [if_neg c18] at H
                have c18b0 : (a0_0 == 3) = false := beq_eq_false_iff_ne.mpr c18
                have c18b1 : (a0_0 != 3) = true := bne_iff_ne.mpr c18
                by_cases c20 : a0_0 = 4
                · rw [if_pos c20] at H
                  have c20b0 : (a0_0 == 4) = true := beq_iff_eq.mpr c20
                  have c20b1 : (a0_0 != 4) = false := bne_eq_false_iff_eq.mpr c20
                  clear c20
                  by_cases c21 : a0_1 = 0
                  · rw [if_pos c21] at H
                    have c21b0 : (a0_1 == 0) = true := beq_iff_eq.mpr c21
                    have c21b1 : (a0_1 != 0) = false := bne_eq_false_iff_eq.mpr c21
                    clear c21
                    obtain rfl := Option.some.inj H
                    have hcz22_0 : wc.cell? ⟨gb101, 0, none⟩ = some (.int .i64 a0_0) := (blk_cell BK101.out 0).trans rfl
                    have hcz22_1 : wc.cell? ⟨gb101, 1, none⟩ = some (.int .i64 a0_1) := (blk_cell BK101.out 1).trans rfl
                    have hcz22_2 : wc.cell? ⟨gb101, 2, none⟩ = some (.string a0_2) := (blk_cell BK101.out 2).trans rfl
                    have hfz22_0 := blk_frozen BK101.out 0
                    have hfz22_1 := blk_frozen BK101.out 1
                    have hfz22_2 := blk_frozen BK101.out 2
                    go_wp2
                    go_ret
                    exact ⟨by first | rfl | (simp [errW_none, errW_some] <;> rfl) | (simp [*, errW_none, errW_some] <;> rfl), by repeat (first | (with_reducible first | exact HB.out | apply below_alloc | apply pw_below_drewN | apply below_drew1 | refine below_set ?_ GE101.out) | exact HB.out)⟩
                  · rw [if_neg c21] at H
                    have c21b0 : (a0_1 == 0) = false := beq_eq_false_iff_ne.mpr c21
                    have c21b1 : (a0_1 != 0) = true := bne_iff_ne.mpr c21
                    obtain rfl := Option.some.inj H
                    have hcz23_0 : wc.cell? ⟨gb101, 0, none⟩ = some (.int .i64 a0_0) := (blk_cell BK101.out 0).trans rfl
                    have hcz23_1 : wc.cell? ⟨gb101, 1, none⟩ = some (.int .i64 a0_1) := (blk_cell BK101.out 1).trans rfl
                    have hcz23_2 : wc.cell? ⟨gb101, 2, none⟩ = some (.string a0_2) := (blk_cell BK101.out 2).trans rfl
                    have hfz23_0 := blk_frozen BK101.out 0
                    have hfz23_1 := blk_frozen BK101.out 1
                    have hfz23_2 := blk_frozen BK101.out 2
                    go_wp2
                    go_ret
                    exact ⟨by first | rfl | (simp [errW_none, errW_some] <;> rfl) | (simp [*, errW_none, errW_some] <;> rfl), by repeat (first | (with_reducible first | exact HB.out | apply below_alloc | apply pw_below_drewN | apply below_drew1 | refine below_set ?_ GE101.out) | exact HB.out)⟩
                · rw [if_neg c20] at H
                  have c20b0 : (a0_0 == 4) = false := beq_eq_false_iff_ne.mpr c20
                  have c20b1 : (a0_0 != 4) = true := bne_iff_ne.mpr c20
                  obtain rfl := Option.some.inj H
                  have hcz24_0 : wc.cell? ⟨gb101, 0, none⟩ = some (.int .i64 a0_0) := (blk_cell BK101.out 0).trans rfl
                  have hcz24_1 : wc.cell? ⟨gb101, 1, none⟩ = some (.int .i64 a0_1) := (blk_cell BK101.out 1).trans rfl
                  have hcz24_2 : wc.cell? ⟨gb101, 2, none⟩ = some (.string a0_2) := (blk_cell BK101.out 2).trans rfl
                  have hfz24_0 := blk_frozen BK101.out 0
                  have hfz24_1 := blk_frozen BK101.out 1
                  have hfz24_2 := blk_frozen BK101.out 2
                  go_wp2
                  go_ret
                  exact ⟨by first | rfl | (simp [errW_none, errW_some] <;> rfl) | (simp [*, errW_none, errW_some] <;> rfl), by repeat (first | (with_reducible first | exact HB.out | apply below_alloc | apply pw_below_drewN | apply below_drew1 | refine below_set ?_ GE101.out) | exact HB.out)⟩
def instarref03_Figures.f : Nat → Int → Option (ByteArray)
  | 0, _ => none
  | k + 1, a0 => if a0 < 0 then (if a0 > (-10) then ((instarref03_Figures.f k (wrap64 (-a0))).bind fun t101 => (if 1 + t101.size ≤ 9223372036854775807 then (some ((⟨#[45]⟩ : ByteArray) ++ t101)) else (none))) else ((instarref03_Figures.f k (wrap64 (Int.tdiv a0 10))).bind fun t102 => (if 0 ≤ (wrap64 (-(Int.tmod a0 10))) then (if (wrap64 (-(Int.tmod a0 10))) ≤ (wrap64 ((wrap64 (-(Int.tmod a0 10))) + 1)) then (if (wrap64 ((wrap64 (-(Int.tmod a0 10))) + 1)) ≤ 10 then (if t102.size + ((((wrap64 ((wrap64 (-(Int.tmod a0 10))) + 1))).toNat - ((wrap64 (-(Int.tmod a0 10)))).toNat)) ≤ 9223372036854775807 then (some (t102 ++ ((⟨#[48, 49, 50, 51, 52, 53, 54, 55, 56, 57]⟩ : ByteArray).extract ((wrap64 (-(Int.tmod a0 10))) : Int).toNat ((wrap64 ((wrap64 (-(Int.tmod a0 10))) + 1)) : Int).toNat))) else (none)) else (none)) else (none)) else (none)))) else (if 0 ≤ (Int.tmod a0 10) then (if (Int.tmod a0 10) ≤ (wrap64 ((Int.tmod a0 10) + 1)) then (if (wrap64 ((Int.tmod a0 10) + 1)) ≤ 10 then (if a0 ≥ 10 then ((instarref03_Figures.f k (wrap64 (Int.tdiv a0 10))).bind fun t103 => (if t103.size + ((((wrap64 ((Int.tmod a0 10) + 1))).toNat - ((Int.tmod a0 10)).toNat)) ≤ 9223372036854775807 then (some (t103 ++ ((⟨#[48, 49, 50, 51, 52, 53, 54, 55, 56, 57]⟩ : ByteArray).extract ((Int.tmod a0 10) : Int).toNat ((wrap64 ((Int.tmod a0 10) + 1)) : Int).toNat))) else (none))) else (some ((⟨#[48, 49, 50, 51, 52, 53, 54, 55, 56, 57]⟩ : ByteArray).extract ((Int.tmod a0 10) : Int).toNat ((wrap64 ((Int.tmod a0 10) + 1)) : Int).toNat))) else (none)) else (none)) else (none))
theorem instarref03_Figures.mono_l : ∀ k, (∀ y0, LeO (instarref03_Figures.f k y0) (instarref03_Figures.f (k + 1) y0))
  | 0 => fun _ r h => by simp [instarref03_Figures.f] at h
  | k + 1 => by
    have ih0 := instarref03_Figures.mono_l k
    · intro y0
      unfold instarref03_Figures.f
      repeat' first
      | (with_reducible exact ih0 _)
      | (with_reducible exact LeO.refl _)
      | (with_reducible exact LeO.none _)
      | (with_reducible refine LeO.ite ?_ ?_)
      | (with_reducible refine LeO.bind ?_ (fun _ => ?_))
      | exact ih0 _
      | exact LeO.none _
      | refine LeO.ite ?_ ?_
      | refine LeO.bind ?_ (fun _ => ?_)
theorem instarref03_Figures.mono : ∀ a0 k, LeO (instarref03_Figures.f k a0) (instarref03_Figures.f (k + 1) a0) := by
  intro a0 k
  have ih0 := instarref03_Figures.mono_l k
  exact ih0 a0
def instarref03_Figures.T4 : Bool × List (List Nat × List Nat) := (true, [([], []), ([0], [0]), ([1], [1]), ([], []), ([3], [3]), ([4], [4]), ([], []), ([6], [6]), ([7], [7]), ([8], [8]), ([5, 9], [5, 9]), ([2, 10], [2, 10]), ([11, 2, 0, 1, 2, 3, 4, 5, 6, 7, 8, 9, 10, 11], [11])])
def instarref03_Figures.B4 : List Nat := [0, 1, 3, 0, 8, 24, 0, 64, 192, 448, 1016, 2047, 4095]
theorem instarref03_Figures.tab4 : rtab .any (opsOf Tryd.f50 4) = instarref03_Figures.T4 := by kernel_rfl
theorem instarref03_Figures.bits4 : waitsOk instarref03_Figures.T4.2 instarref03_Figures.B4 = true := by kernel_rfl
set_option maxHeartbeats 8000000 in
set_option maxRecDepth 100000 in
theorem instarref03_Figures.calls (k : Nat) : ∀ (a0 : Int) (r : ByteArray) (w : World) (h : instarref03_Figures.f k a0 = some r),
    Calls Tryd.prog 50 #[.int .i64 a0] w fun e w' => e = .returned (.string r) ∧ Below w.heap.size w w' := by
  induction k using Nat.strongRecOn with
  | _ k ih =>
  intro a0 r w h
  cases k with
  | zero => exact absurd h (by simp [instarref03_Figures.f])
  | succ k =>
  simp only [instarref03_Figures.f] at h
  have HB := Aside0.mk (Below.refl w.heap.size w)
  have H : (if a0 < 0 then (if a0 > (-10) then ((instarref03_Figures.f k (wrap64 (-a0))).bind fun t101 => (if 1 + t101.size ≤ 9223372036854775807 then (some ((⟨#[45]⟩ : ByteArray) ++ t101)) else (none))) else ((instarref03_Figures.f k (wrap64 (Int.tdiv a0 10))).bind fun t102 => (if 0 ≤ (wrap64 (-(Int.tmod a0 10))) then (if (wrap64 (-(Int.tmod a0 10))) ≤ (wrap64 ((wrap64 (-(Int.tmod a0 10))) + 1)) then (if (wrap64 ((wrap64 (-(Int.tmod a0 10))) + 1)) ≤ 10 then (if t102.size + ((((wrap64 ((wrap64 (-(Int.tmod a0 10))) + 1))).toNat - ((wrap64 (-(Int.tmod a0 10)))).toNat)) ≤ 9223372036854775807 then (some (t102 ++ ((⟨#[48, 49, 50, 51, 52, 53, 54, 55, 56, 57]⟩ : ByteArray).extract ((wrap64 (-(Int.tmod a0 10))) : Int).toNat ((wrap64 ((wrap64 (-(Int.tmod a0 10))) + 1)) : Int).toNat))) else (none)) else (none)) else (none)) else (none)))) else (if 0 ≤ (Int.tmod a0 10) then (if (Int.tmod a0 10) ≤ (wrap64 ((Int.tmod a0 10) + 1)) then (if (wrap64 ((Int.tmod a0 10) + 1)) ≤ 10 then (if a0 ≥ 10 then ((instarref03_Figures.f k (wrap64 (Int.tdiv a0 10))).bind fun t103 => (if t103.size + ((((wrap64 ((Int.tmod a0 10) + 1))).toNat - ((Int.tmod a0 10)).toNat)) ≤ 9223372036854775807 then (some (t103 ++ ((⟨#[48, 49, 50, 51, 52, 53, 54, 55, 56, 57]⟩ : ByteArray).extract ((Int.tmod a0 10) : Int).toNat ((wrap64 ((Int.tmod a0 10) + 1)) : Int).toNat))) else (none))) else (some ((⟨#[48, 49, 50, 51, 52, 53, 54, 55, 56, 57]⟩ : ByteArray).extract ((Int.tmod a0 10) : Int).toNat ((wrap64 ((Int.tmod a0 10) + 1)) : Int).toNat))) else (none)) else (none)) else (none))) = some r := h
  clear h
  by_cases c2 : a0 < 0
  · rw [if_pos c2] at H
    have c2b0 : decide (a0 < 0) = true := decide_eq_true c2
    clear c2
    by_cases c3 : a0 > (-10)
    · rw [if_pos c3] at H
      have c3b0 : decide ((-10) < a0) = true := decide_eq_true c3
      clear c3
      replace H := Option.bind_eq_some_iff.mp H
      obtain ⟨t101, A40, H⟩ := H
      replace H : (if 1 + t101.size ≤ 9223372036854775807 then (some ((⟨#[45]⟩ : ByteArray) ++ t101)) else (none)) = some r := H
      have A4 := Aside0.mk A40
      clear A40
      by_cases c5 : 1 + t101.size ≤ 9223372036854775807
      · rw [if_pos c5] at H
        have c5b0 := eq_true c5
        have c5b1 : decide (1 + t101.size ≤ 9223372036854775807) = true := decide_eq_true c5
        try have c5b2 : (9223372036854775807 < 1 + t101.size) = False := eq_false (Nat.not_lt.2 c5)
        obtain rfl := Option.some.inj H
        go_enter Tryd.func50, Tryd.ntmps50
        go_wp2_with (first | ((with_reducible refine gate_callee (f := 50) rfl ?_); refine goesL_ (some 10) rfl rfl Tryd.func50 (by kernel_rfl) rfl #[.int .i64 (wrap64 (-a0))] rfl (by (try simp only [List.map_toArray, List.map_cons, List.map_nil]); first | done | rfl | (simp only [List.length_drop, List.length_take]; rfl)) ?_; (with_reducible refine (ih k (by omega) (wrap64 (-a0)) t101 _ A4.out).mono ?_); rintro e w6 ⟨rfl, hb⟩; refine ⟨_, rfl, ?_⟩; have n0_ := Aside0.mk (below_step (by repeat (first | (with_reducible first | exact HB.out | apply below_alloc | apply pw_below_drewN | apply below_drew1) | exact HB.out)) hb); clear HB; have HB := n0_; clear n0_; (try clear hb); (try clear hb2); (try clear hk); (try clear hi)))
        go_ret
        exact ⟨by first | rfl | (simp [errW_none, errW_some] <;> rfl) | (simp [*, errW_none, errW_some] <;> rfl), by repeat (first | (with_reducible first | exact HB.out | apply below_alloc | apply pw_below_drewN | apply below_drew1) | exact HB.out)⟩
      · rw [if_neg c5] at H
        exact absurd H (by simp)
    · rw [if_neg c3] at H
      have c3b0 : decide ((-10) < a0) = false := decide_eq_false c3
      clear c3
      replace H := Option.bind_eq_some_iff.mp H
      obtain ⟨t102, A70, H⟩ := H
      replace H : (if 0 ≤ (wrap64 (-(Int.tmod a0 10))) then (if (wrap64 (-(Int.tmod a0 10))) ≤ (wrap64 ((wrap64 (-(Int.tmod a0 10))) + 1)) then (if (wrap64 ((wrap64 (-(Int.tmod a0 10))) + 1)) ≤ 10 then (if t102.size + ((((wrap64 ((wrap64 (-(Int.tmod a0 10))) + 1))).toNat - ((wrap64 (-(Int.tmod a0 10)))).toNat)) ≤ 9223372036854775807 then (some (t102 ++ ((⟨#[48, 49, 50, 51, 52, 53, 54, 55, 56, 57]⟩ : ByteArray).extract ((wrap64 (-(Int.tmod a0 10))) : Int).toNat ((wrap64 ((wrap64 (-(Int.tmod a0 10))) + 1)) : Int).toNat))) else (none)) else (none)) else (none)) else (none)) = some r := H
      have A7 := Aside0.mk A70
      clear A70
      obtain ⟨ji8, hji8⟩ : ∃ j_ : Int, (wrap64 (-(Int.tmod a0 10))) = j_ := ⟨_, rfl⟩
      replace H : (if 0 ≤ (ji8) then (if (ji8) ≤ (wrap64 ((ji8) + 1)) then (if (wrap64 ((ji8) + 1)) ≤ 10 then (if t102.size + ((((wrap64 ((ji8) + 1))).toNat - ((ji8)).toNat)) ≤ 9223372036854775807 then (some (t102 ++ ((⟨#[48, 49, 50, 51, 52, 53, 54, 55, 56, 57]⟩ : ByteArray).extract ((ji8) : Int).toNat ((wrap64 ((ji8) + 1)) : Int).toNat))) else (none)) else (none)) else (none)) else (none)) = some r := by first | (rw [hji8] at H; exact H) | (simp only [hji8] at H ⊢; exact H)
      (try rw [hji8] at A7)
      have hji8w : (IntKind.i64.wrap (-(Int.tmod a0 10))) = ji8 := (i64_w _).trans hji8
      by_cases c9 : 0 ≤ (ji8)
      · rw [if_pos c9] at H
        have c9b0 := eq_true c9
        have c9b1 : decide (0 ≤ (ji8)) = true := decide_eq_true c9
        clear c9
        by_cases c10 : (ji8) ≤ (wrap64 ((ji8) + 1))
        · rw [if_pos c10] at H
          have c10b0 := eq_true c10
          have c10b1 : decide ((ji8) ≤ (wrap64 ((ji8) + 1))) = true := decide_eq_true c10
          by_cases c11 : (wrap64 ((ji8) + 1)) ≤ 10
          · rw [if_pos c11] at H
            have c11b0 := eq_true c11
            have c11b1 : decide ((wrap64 ((ji8) + 1)) ≤ 10) = true := decide_eq_true c11
            by_cases c12 : t102.size + ((((wrap64 ((ji8) + 1))).toNat - ((ji8)).toNat)) ≤ 9223372036854775807
            · rw [if_pos c12] at H
              have c12b0 := eq_true c12
              have c12b1 : decide (t102.size + ((((wrap64 ((ji8) + 1))).toNat - ((ji8)).toNat)) ≤ 9223372036854775807) = true := decide_eq_true c12
              try have c12b2 : (9223372036854775807 < t102.size + ((((wrap64 ((ji8) + 1))).toNat - ((ji8)).toNat))) = False := eq_false (Nat.not_lt.2 c12)
              obtain rfl := Option.some.inj H
              go_enter Tryd.func50, Tryd.ntmps50
              try go_wp2
              have n0_ := Aside0.mk (below_drew1 HB.out)
              clear HB
              have HB := n0_
              clear n0_
              refine start_ (n := 13) (S := fun w' => True) (ds := []) #[false, false, false, false, false, false, false, false, false, false, false, false, false] (by kernel_rfl) rfl rfl trivial (fun hHeld => ?_); refine with_tabW instarref03_Figures.tab4 instarref03_Figures.bits4 (fun HT_ HW_ => ?_)
              generalize w.drew = w13 at HB hHeld ⊢
              refine pure_ (i := 0) (N := some 12) (v := ?_) (a' := ?_) #[true, false, false, false, false, false, false, false, false, false, false, false, false] rfl rfl (any_of HT_.out (by kernel_rfl)) (fun _ _ _ h => h) (Or.inl ⟨by rfl, ?_⟩) ?_ ?_
              rotate_left
              · intro w'
                go_simp
                with_reducible rfl
              rotate_left
              · simp only [Act.put, List.setIfInBounds_toArray, List.set_cons_zero, List.set_cons_succ, i64_w, i32_w]
                rfl
              refine pure_ (i := 1) (N := some 13) (v := ?_) (a' := ?_) #[true, true, false, false, false, false, false, false, false, false, false, false, false] rfl rfl (any_of HT_.out (by kernel_rfl)) (fun _ _ _ h => h) (Or.inl ⟨by rfl, ?_⟩) ?_ ?_
              rotate_left
              · intro w'
                go_simp
                with_reducible rfl
              rotate_left
              · simp only [Act.put, List.setIfInBounds_toArray, List.set_cons_zero, List.set_cons_succ, i64_w, i32_w]
                rfl
              refine pure_ (i := 3) (N := some 15) (v := ?_) (a' := ?_) #[true, true, false, true, false, false, false, false, false, false, false, false, false] rfl rfl (any_of HT_.out (by kernel_rfl)) (fun _ _ _ h => h) (Or.inl ⟨by rfl, ?_⟩) ?_ ?_
              rotate_left
              · intro w'
                go_simp
                with_reducible rfl
              rotate_left
              · simp only [Act.put, List.setIfInBounds_toArray, List.set_cons_zero, List.set_cons_succ, i64_w, i32_w]
                rfl
              refine pure_ (i := 4) (N := some 16) (v := ?_) (a' := ?_) #[true, true, false, true, true, false, false, false, false, false, false, false, false] rfl rfl (any_of HT_.out (by kernel_rfl)) (fun _ _ _ h => h) (Or.inl ⟨by rfl, ?_⟩) ?_ ?_
              rotate_left
              · intro w'
                go_simp
                with_reducible rfl
              rotate_left
              · simp only [Act.put, List.setIfInBounds_toArray, List.set_cons_zero, List.set_cons_succ, i64_w, i32_w]
                rfl
              refine pure_ (i := 5) (N := some 17) (v := ?_) (a' := ?_) #[true, true, false, true, true, true, false, false, false, false, false, false, false] rfl rfl (any_of HT_.out (by kernel_rfl)) (fun _ _ _ h => h) (Or.inl ⟨by rfl, ?_⟩) ?_ ?_
              rotate_left
              · intro w'
                go_simp
                with_reducible rfl
              rotate_left
              · simp only [Act.put, List.setIfInBounds_toArray, List.set_cons_zero, List.set_cons_succ, i64_w, i32_w]
                rfl
              refine pure_ (i := 6) (N := some 18) (v := ?_) (a' := ?_) #[true, true, false, true, true, true, true, false, false, false, false, false, false] rfl rfl (any_of HT_.out (by kernel_rfl)) (fun _ _ _ h => h) (Or.inl ⟨by rfl, ?_⟩) ?_ ?_
              rotate_left
              · intro w'
                go_simp
                with_reducible rfl
              rotate_left
              · simp only [Act.put, List.setIfInBounds_toArray, List.set_cons_zero, List.set_cons_succ, i64_w, i32_w]
                rfl
              refine pure_ (i := 7) (N := some 19) (v := ?_) (a' := ?_) #[true, true, false, true, true, true, true, true, false, false, false, false, false] rfl rfl (any_of HT_.out (by kernel_rfl)) (fun _ _ _ h => h) (Or.inl ⟨by rfl, ?_⟩) ?_ ?_
              rotate_left
              · intro w'
                go_simp
                with_reducible rfl
              rotate_left
              · simp only [Act.put, List.setIfInBounds_toArray, List.set_cons_zero, List.set_cons_succ, i64_w, i32_w]
                rfl
              refine pure_ (i := 8) (N := some 20) (v := ?_) (a' := ?_) #[true, true, false, true, true, true, true, true, true, false, false, false, false] rfl rfl (any_of HT_.out (by kernel_rfl)) (fun _ _ _ h => h) (Or.inl ⟨by rfl, ?_⟩) ?_ ?_
              rotate_left
              · intro w'
                go_simp
                with_reducible rfl
              rotate_left
              · simp only [Act.put, List.setIfInBounds_toArray, List.set_cons_zero, List.set_cons_succ, i64_w, i32_w]
                rfl
              refine pure_ (i := 9) (N := some 21) (v := ?_) (a' := ?_) #[true, true, false, true, true, true, true, true, true, true, false, false, false] rfl rfl (any_of HT_.out (by kernel_rfl)) (fun _ _ _ h => h) (Or.inl ⟨by rfl, ?_⟩) ?_ ?_
              rotate_left
              · intro w'
                go_simp
                with_reducible rfl
              rotate_left
              · simp only [Act.put, List.setIfInBounds_toArray, List.set_cons_zero, List.set_cons_succ, i64_w, i32_w]
                rfl
              refine pure_ (i := 10) (N := some 22) (v := ?_) (a' := ?_) #[true, true, false, true, true, true, true, true, true, true, true, false, false] rfl rfl (any_of HT_.out (by kernel_rfl)) (fun _ _ _ h => h) (Or.inl ⟨by rfl, ?_⟩) ?_ ?_
              rotate_left
              · intro w'
                go_simp
                with_reducible rfl
              rotate_left
              · simp only [Act.put, List.setIfInBounds_toArray, List.set_cons_zero, List.set_cons_succ, i64_w, i32_w]
                rfl
              refine one_ (i := 2) (N := some 14) #[true, true, true, true, true, true, true, true, true, true, true, false, false] rfl rfl (one_of HT_.out (by kernel_rfl)) (by decide) (fun K hK => ?_)
              refine goes_ Tryd.func50 (by kernel_rfl) rfl #[.int .i64 (wrap64 (Int.tdiv a0 10))] (by rfl) rfl rfl (by (try simp only [List.map_toArray, List.map_cons, List.map_nil]); first | done | rfl | (simp only [List.length_drop, List.length_take]; rfl)) ?_
              with_reducible refine (ih k (by omega) (wrap64 (Int.tdiv a0 10)) t102 _ A7.out).mono ?_
              rintro e w14 ⟨rfl, hb⟩
              refine ⟨_, rfl, ?_⟩
              have n0_ := Aside0.mk (below_step (by repeat (first | (with_reducible first | exact HB.out | apply below_alloc | apply pw_below_drewN | apply below_drew1) | exact HB.out)) hb)
              clear HB
              have HB := n0_
              clear n0_
              (try clear hb)
              (try clear hb2)
              (try clear hk)
              (try clear hi)
              refine hK.out _ _ trivial (fun hHeld => ?_)
              clear hK K
              refine norm_ (a' := ?_) ?_ ?_
              rotate_left
              · show Act.put _ (some 14) _ = _
                simp only [Act.put, List.setIfInBounds_toArray, List.set_cons_zero, List.set_cons_succ, i64_w, i32_w]
                rfl
              refine pure_ (i := 11) (N := some 23) (v := ?_) (a' := ?_) #[true, true, true, true, true, true, true, true, true, true, true, true, false] rfl rfl (any_of HT_.out (by kernel_rfl)) (fun _ _ _ h => h) (Or.inl ⟨by rfl, ?_⟩) ?_ ?_
              rotate_left
              · intro w'
                go_simp
                with_reducible rfl
              rotate_left
              · simp only [Act.put, List.setIfInBounds_toArray, List.set_cons_zero, List.set_cons_succ, i64_w, i32_w]
                rfl
              refine pure_ (i := 12) (N := some 2) (v := ?_) (a' := ?_) #[true, true, true, true, true, true, true, true, true, true, true, true, true] rfl rfl (any_of HT_.out (by kernel_rfl)) (fun _ _ _ h => h) (Or.inl ⟨by rfl, ?_⟩) ?_ ?_
              rotate_left
              · intro w'
                go_simp
                with_reducible rfl
              rotate_left
              · simp only [Act.put, List.setIfInBounds_toArray, List.set_cons_zero, List.set_cons_succ, i64_w, i32_w]
                rfl
              refine done_ (done_of HT_.out (by kernel_rfl)) ?_
              try go_wp2
              go_ret
              exact ⟨by first | rfl | (simp [errW_none, errW_some] <;> rfl) | (simp only [← hji8]; first | rfl | (simp [errW_none, errW_some] <;> rfl)) | (simp [*, errW_none, errW_some] <;> rfl), by repeat (first | (with_reducible first | exact HB.out | apply below_alloc | apply pw_below_drewN | apply below_drew1) | exact HB.out)⟩
            · rw [if_neg c12] at H
              exact absurd H (by simp)
          · rw [if_neg c11] at H
            exact absurd H (by simp)
        · rw [if_neg c10] at H
          exact absurd H (by simp)
      · rw [if_neg c9] at H
        exact absurd H (by simp)
  · rw [if_neg c2] at H
    have c2b0 : decide (a0 < 0) = false := decide_eq_false c2
    clear c2
    obtain ⟨ji15, hji15⟩ : ∃ j_ : Int, (Int.tmod a0 10) = j_ := ⟨_, rfl⟩
    replace H : (if 0 ≤ (ji15) then (if (ji15) ≤ (wrap64 ((ji15) + 1)) then (if (wrap64 ((ji15) + 1)) ≤ 10 then (if a0 ≥ 10 then ((instarref03_Figures.f k (wrap64 (Int.tdiv a0 10))).bind fun t103 => (if t103.size + ((((wrap64 ((ji15) + 1))).toNat - ((ji15)).toNat)) ≤ 9223372036854775807 then (some (t103 ++ ((⟨#[48, 49, 50, 51, 52, 53, 54, 55, 56, 57]⟩ : ByteArray).extract ((ji15) : Int).toNat ((wrap64 ((ji15) + 1)) : Int).toNat))) else (none))) else (some ((⟨#[48, 49, 50, 51, 52, 53, 54, 55, 56, 57]⟩ : ByteArray).extract ((ji15) : Int).toNat ((wrap64 ((ji15) + 1)) : Int).toNat))) else (none)) else (none)) else (none)) = some r := by first | (rw [hji15] at H; exact H) | (simp only [hji15] at H ⊢; exact H)
    by_cases c16 : 0 ≤ (ji15)
    · rw [if_pos c16] at H
      have c16b0 := eq_true c16
      have c16b1 : decide (0 ≤ (ji15)) = true := decide_eq_true c16
      clear c16
      by_cases c17 : (ji15) ≤ (wrap64 ((ji15) + 1))
      · rw [if_pos c17] at H
        have c17b0 := eq_true c17
        have c17b1 : decide ((ji15) ≤ (wrap64 ((ji15) + 1))) = true := decide_eq_true c17
        by_cases c18 : (wrap64 ((ji15) + 1)) ≤ 10
        · rw [if_pos c18] at H
          have c18b0 := eq_true c18
          have c18b1 : decide ((wrap64 ((ji15) + 1)) ≤ 10) = true := decide_eq_true c18
          by_cases c19 : a0 ≥ 10
          · rw [if_pos c19] at H
            have c19b0 : decide (10 ≤ a0) = true := decide_eq_true c19
            clear c19
            replace H := Option.bind_eq_some_iff.mp H
            obtain ⟨t103, A200, H⟩ := H
            replace H : (if t103.size + ((((wrap64 ((ji15) + 1))).toNat - ((ji15)).toNat)) ≤ 9223372036854775807 then (some (t103 ++ ((⟨#[48, 49, 50, 51, 52, 53, 54, 55, 56, 57]⟩ : ByteArray).extract ((ji15) : Int).toNat ((wrap64 ((ji15) + 1)) : Int).toNat))) else (none)) = some r := H
            have A20 := Aside0.mk A200
            clear A200
            by_cases c21 : t103.size + ((((wrap64 ((ji15) + 1))).toNat - ((ji15)).toNat)) ≤ 9223372036854775807
            · rw [if_pos c21] at H
              have c21b0 := eq_true c21
              have c21b1 : decide (t103.size + ((((wrap64 ((ji15) + 1))).toNat - ((ji15)).toNat)) ≤ 9223372036854775807) = true := decide_eq_true c21
              try have c21b2 : (9223372036854775807 < t103.size + ((((wrap64 ((ji15) + 1))).toNat - ((ji15)).toNat))) = False := eq_false (Nat.not_lt.2 c21)
              obtain rfl := Option.some.inj H
              go_enter Tryd.func50, Tryd.ntmps50
              go_wp2_with (first | ((with_reducible refine gate_callee (f := 50) rfl ?_); refine goesL_ (some 34) rfl rfl Tryd.func50 (by kernel_rfl) rfl #[.int .i64 (wrap64 (Int.tdiv a0 10))] rfl (by (try simp only [List.map_toArray, List.map_cons, List.map_nil]); first | done | rfl | (simp only [List.length_drop, List.length_take]; rfl)) ?_; (with_reducible refine (ih k (by omega) (wrap64 (Int.tdiv a0 10)) t103 _ A20.out).mono ?_); rintro e w22 ⟨rfl, hb⟩; refine ⟨_, rfl, ?_⟩; have n0_ := Aside0.mk (below_step (by repeat (first | (with_reducible first | exact HB.out | apply below_alloc | apply pw_below_drewN | apply below_drew1) | exact HB.out)) hb); clear HB; have HB := n0_; clear n0_; (try clear hb); (try clear hb2); (try clear hk); (try clear hi)))
              go_ret
              exact ⟨by first | rfl | (simp [errW_none, errW_some] <;> rfl) | (simp only [← hji15]; first | rfl | (simp [errW_none, errW_some] <;> rfl)) | (simp [*, errW_none, errW_some] <;> rfl), by repeat (first | (with_reducible first | exact HB.out | apply below_alloc | apply pw_below_drewN | apply below_drew1) | exact HB.out)⟩
            · rw [if_neg c21] at H
              exact absurd H (by simp)
          · rw [if_neg c19] at H
            have c19b0 : decide (10 ≤ a0) = false := decide_eq_false c19
            clear c19
            obtain rfl := Option.some.inj H
            go_enter Tryd.func50, Tryd.ntmps50
            go_wp2
            go_ret
            exact ⟨by first | rfl | (simp [errW_none, errW_some] <;> rfl) | (simp only [← hji15]; first | rfl | (simp [errW_none, errW_some] <;> rfl)) | (simp [*, errW_none, errW_some] <;> rfl), by repeat (first | (with_reducible first | exact HB.out | apply below_alloc | apply pw_below_drewN | apply below_drew1) | exact HB.out)⟩
        · rw [if_neg c18] at H
          exact absurd H (by simp)
      · rw [if_neg c17] at H
        exact absurd H (by simp)
    · rw [if_neg c16] at H
      exact absurd H (by simp)
end Go.Proofs.YtngeelpfbajppaaDoor.PB
end
section
namespace Go.Proofs.YtngeelpfbajppaaDoor.PB
open Go.RowKit Go.Proofs.YtngeelpfbajppaaDoorW.PrintWords Go.Proofs.YtngeelpfbajppaaDoorW.PrintLast Go.Proofs.YtngeelpfbajppaaDoorW.PrintMore
attribute [local go_sem] max2_int min2_int max_two min_two max_three min_three max_four min_four
attribute [local go_sem high] Go.Proofs.YtngeelpfbajppaaDoor.Bs.gtr_bl Go.Proofs.YtngeelpfbajppaaDoor.Bs.leq_bl Go.Proofs.YtngeelpfbajppaaDoor.Bs.cell_set2
set_option linter.unusedVariables false
set_option linter.unusedSimpArgs false
def instarref03_Show.l0 : Nat → ByteArray → Int → Int → Int → ByteArray → Option (ByteArray)
  | 0, _, _, _, _, _ => none
  | k + 1, x4, x5, x102000, x102001, x102002 => if x5 < (x102002.size : Int) then (if 0 ≤ x5 then (if x5 ≤ (wrap64 (x5 + 1)) then (if (wrap64 (x5 + 1)) ≤ (x102002.size : Int) then (if x4.size + ((((wrap64 (x5 + 1))).toNat - x5.toNat)) ≤ 9223372036854775807 then (if (bt x102002 x5) = 39 then (if x4.size + ((((wrap64 (x5 + 1))).toNat - x5.toNat)) + 1 ≤ 9223372036854775807 then (instarref03_Show.l0 k ((x4 ++ (x102002.extract (x5 : Int).toNat ((wrap64 (x5 + 1)) : Int).toNat)) ++ (⟨#[39]⟩ : ByteArray)) (wrap64 (x5 + 1)) x102000 x102001 x102002) else (none)) else (instarref03_Show.l0 k (x4 ++ (x102002.extract (x5 : Int).toNat ((wrap64 (x5 + 1)) : Int).toNat)) (wrap64 (x5 + 1)) x102000 x102001 x102002)) else (none)) else (none)) else (none)) else (none)) else (if x4.size + 1 ≤ 9223372036854775807 then (some (x4 ++ (⟨#[39]⟩ : ByteArray))) else (none))
def instarref03_Show.f (k : Nat) (a0_0 : Int) (a0_1 : Int) (a0_2 : ByteArray) : Option (ByteArray) := (instarref03_Right.f k a0_0 a0_1 a0_2).bind fun t102 => (if t102 = true then (if a0_0 = 0 then (some (⟨#[110, 117, 108, 108]⟩ : ByteArray)) else (if a0_0 = 1 then (if a0_1 = 1 then (some (⟨#[116, 114, 117, 101]⟩ : ByteArray)) else (some (⟨#[102, 97, 108, 115, 101]⟩ : ByteArray))) else (if a0_0 = 4 then (instarref03_Show.l0 k (⟨#[39]⟩ : ByteArray) 0 a0_0 a0_1 a0_2) else ((instarref03_Figures.f k a0_1).bind fun t103 => (some t103))))) else (some (⟨#[63]⟩ : ByteArray)))
theorem instarref03_Show.mono_l : ∀ k, (∀ y0 y1 y2 y3 y4, LeO (instarref03_Show.l0 k y0 y1 y2 y3 y4) (instarref03_Show.l0 (k + 1) y0 y1 y2 y3 y4))
  | 0 => fun _ _ _ _ _ r h => by simp [instarref03_Show.l0] at h
  | k + 1 => by
    have ih0 := instarref03_Show.mono_l k
    · intro y0 y1 y2 y3 y4
      unfold instarref03_Show.l0
      repeat' first
      | (with_reducible exact ih0 _ _ _ _ _)
      | (with_reducible exact instarref03_Figures.mono _ _)
      | (with_reducible exact instarref03_Right.mono _ _ _ _)
      | (with_reducible exact LeO.refl _)
      | (with_reducible exact LeO.none _)
      | (with_reducible refine LeO.ite ?_ ?_)
      | (with_reducible refine LeO.bind ?_ (fun _ => ?_))
      | exact ih0 _ _ _ _ _
      | exact instarref03_Figures.mono _ _
      | exact instarref03_Right.mono _ _ _ _
      | exact LeO.none _
      | refine LeO.ite ?_ ?_
      | refine LeO.bind ?_ (fun _ => ?_)
theorem instarref03_Show.mono : ∀ a0 a1 a2 k, LeO (instarref03_Show.f k a0 a1 a2) (instarref03_Show.f (k + 1) a0 a1 a2) := by
  intro a0 a1 a2 k
  have ih0 := instarref03_Show.mono_l k
  unfold instarref03_Show.f
  repeat' first
      | (with_reducible exact ih0 _ _ _ _ _)
      | (with_reducible exact instarref03_Figures.mono _ _)
      | (with_reducible exact instarref03_Right.mono _ _ _ _)
      | (with_reducible exact LeO.refl _)
      | (with_reducible exact LeO.none _)
      | (with_reducible refine LeO.ite ?_ ?_)
      | (with_reducible refine LeO.bind ?_ (fun _ => ?_))
      | exact ih0 _ _ _ _ _
      | exact instarref03_Figures.mono _ _
      | exact instarref03_Right.mono _ _ _ _
      | exact LeO.none _
      | refine LeO.ite ?_ ?_
      | refine LeO.bind ?_ (fun _ => ?_)
set_option maxHeartbeats 8000000 in
set_option maxRecDepth 100000 in
theorem instarref03_Show.calls (k : Nat) (a0_0 : Int) (a0_1 : Int) (a0_2 : ByteArray) (r : ByteArray) (w : World) (h : instarref03_Show.f k a0_0 a0_1 a0_2 = some r) :
    Calls Tryd.prog 22 #[.agg #[.int .i64 a0_0, .int .i64 a0_1, .string a0_2]] w fun e w' => e = .returned (.string r) ∧ Below w.heap.size w w' := by
  have hu52 := Tryd.underlying52
  have HB := Aside0.mk (Below.refl w.heap.size w)
  have H : ((instarref03_Right.f k a0_0 a0_1 a0_2).bind fun t102 => (if t102 = true then (if a0_0 = 0 then (some (⟨#[110, 117, 108, 108]⟩ : ByteArray)) else (if a0_0 = 1 then (if a0_1 = 1 then (some (⟨#[116, 114, 117, 101]⟩ : ByteArray)) else (some (⟨#[102, 97, 108, 115, 101]⟩ : ByteArray))) else (if a0_0 = 4 then (instarref03_Show.l0 k (⟨#[39]⟩ : ByteArray) 0 a0_0 a0_1 a0_2) else ((instarref03_Figures.f k a0_1).bind fun t103 => (some t103))))) else (some (⟨#[63]⟩ : ByteArray)))) = some r := h
  clear h
  replace H := Option.bind_eq_some_iff.mp H
  obtain ⟨t102, A20, H⟩ := H
  replace H : (if t102 = true then (if a0_0 = 0 then (some (⟨#[110, 117, 108, 108]⟩ : ByteArray)) else (if a0_0 = 1 then (if a0_1 = 1 then (some (⟨#[116, 114, 117, 101]⟩ : ByteArray)) else (some (⟨#[102, 97, 108, 115, 101]⟩ : ByteArray))) else (if a0_0 = 4 then (instarref03_Show.l0 k (⟨#[39]⟩ : ByteArray) 0 a0_0 a0_1 a0_2) else ((instarref03_Figures.f k a0_1).bind fun t103 => (some t103))))) else (some (⟨#[63]⟩ : ByteArray))) = some r := H
  have A2 := Aside0.mk A20
  clear A20
  by_cases c3 : t102 = true
  · subst c3
    have H1 : (if a0_0 = 0 then (some (⟨#[110, 117, 108, 108]⟩ : ByteArray)) else (if a0_0 = 1 then (if a0_1 = 1 then (some (⟨#[116, 114, 117, 101]⟩ : ByteArray)) else (some (⟨#[102, 97, 108, 115, 101]⟩ : ByteArray))) else (if a0_0 = 4 then (instarref03_Show.l0 k (⟨#[39]⟩ : ByteArray) 0 a0_0 a0_1 a0_2) else ((instarref03_Figures.f k a0_1).bind fun t103 => (some t103))))) = some r := by rw [if_pos rfl] at H; exact H
    clear H
    have H := H1
    clear H1
    by_cases c4 : a0_0 = 0
    · rw [if_pos c4] at H
      have c4b0 : (a0_0 == 0) = true := beq_iff_eq.mpr c4
      have c4b1 : (a0_0 != 0) = false := bne_eq_false_iff_eq.mpr c4
      clear c4
      obtain rfl := Option.some.inj H
      go_enter Tryd.func22, Tryd.ntmps22
      go_wp2_with (first | ((with_reducible refine gate_dst (N := 1) rfl ?_); refine box_event ?hg (N := 1) ?hd (cs := #[.int .i64 a0_0, .int .i64 a0_1, .string a0_2]) (t := 52) ?hr ?_; (case hd => rfl); (case hg => rfl); (case hr => first | (go_simp; done) | (go_simp; rfl)); intro gb101 hg w5 hbox hb; have n0_ := Aside0.mk (below_step (by repeat (first | (with_reducible first | exact HB.out | apply below_alloc | apply pw_below_drewN | apply below_drew1) | exact HB.out)) hb); have n1_ := Aside0.mk (hbox); have n2_ := Aside0.mk ((by rw [hg]; exact (below_size (by repeat (first | (with_reducible first | exact HB.out | apply below_alloc | apply pw_below_drewN | apply below_drew1) | exact HB.out))) : w.heap.size ≤ gb101)); have n3_ := Aside0.mk ((by rw [hg]; exact (below_size (by repeat (first | (with_reducible first | exact HB.out | apply below_alloc | apply pw_below_drewN | apply below_drew1) | exact HB.out))) : w.heap.size ≤ gb101)); clear HB; have HB := n0_; have BK101 := n1_; have GW101 := n2_; have GE101 := n3_; clear n0_ n1_ n2_ n3_; clear hb hbox hg; have hcz6_0 : w5.cell? ⟨gb101, 0, none⟩ = some (.int .i64 a0_0) := (blk_cell BK101.out 0).trans rfl; have hcz6_1 : w5.cell? ⟨gb101, 1, none⟩ = some (.int .i64 a0_1) := (blk_cell BK101.out 1).trans rfl; have hcz6_2 : w5.cell? ⟨gb101, 2, none⟩ = some (.string a0_2) := (blk_cell BK101.out 2).trans rfl; have hfz6_0 := blk_frozen BK101.out 0; have hfz6_1 := blk_frozen BK101.out 1; have hfz6_2 := blk_frozen BK101.out 2) | ((with_reducible refine gate_callee (f := 49) rfl ?_); refine goesL_ (some 7) rfl rfl Tryd.func49 (by kernel_rfl) rfl #[.agg #[.int .i64 a0_0, .int .i64 a0_1, .string a0_2]] rfl (by (try simp only [List.map_toArray, List.map_cons, List.map_nil]); first | done | rfl | (simp only [List.length_drop, List.length_take]; rfl)) ?_; (with_reducible refine (instarref03_Right.calls k a0_0 a0_1 a0_2 true _ A2.out).mono ?_); rintro e w7 ⟨rfl, hb⟩; refine ⟨_, rfl, ?_⟩; have n0_ := Aside0.mk (blk_below (g := gb101) (o := .cells #[.int .i64 a0_0, .int .i64 a0_1, .string a0_2] 52 (0, 0)) (by (with_reducible repeat (first | refine blk_drewN ?_ _ | refine blk_drew ?_ | refine blk_alloc ?_ _)); exact BK101.out) hb); have n1_ := Aside0.mk (below_step (by repeat (first | (with_reducible first | exact HB.out | apply below_alloc | apply pw_below_drewN | apply below_drew1 | refine below_set ?_ GE101.out) | exact HB.out)) hb); clear BK101; clear HB; have BK101 := n0_; have HB := n1_; clear n0_ n1_; (try clear hb); (try clear hb2); (try clear hk); (try clear hi); have hcz8_0 : w7.cell? ⟨gb101, 0, none⟩ = some (.int .i64 a0_0) := (blk_cell BK101.out 0).trans rfl; have hcz8_1 : w7.cell? ⟨gb101, 1, none⟩ = some (.int .i64 a0_1) := (blk_cell BK101.out 1).trans rfl; have hcz8_2 : w7.cell? ⟨gb101, 2, none⟩ = some (.string a0_2) := (blk_cell BK101.out 2).trans rfl; have hfz8_0 := blk_frozen BK101.out 0; have hfz8_1 := blk_frozen BK101.out 1; have hfz8_2 := blk_frozen BK101.out 2))
      go_ret
      exact ⟨by first | rfl | (simp [errW_none, errW_some] <;> rfl) | (simp [*, errW_none, errW_some] <;> rfl), by repeat (first | (with_reducible first | exact HB.out | apply below_alloc | apply pw_below_drewN | apply below_drew1 | refine below_set ?_ GE101.out) | exact HB.out)⟩
    · rw [if_neg c4] at H
      have c4b0 : (a0_0 == 0) = false := beq_eq_false_iff_ne.mpr c4
      have c4b1 : (a0_0 != 0) = true := bne_iff_ne.mpr c4
      by_cases c9 : a0_0 = 1
      · rw [if_pos c9] at H
        have c9b0 : (a0_0 == 1) = true := beq_iff_eq.mpr c9
        have c9b1 : (a0_0 != 1) = false := bne_eq_false_iff_eq.mpr c9
        clear c9
        by_cases c10 : a0_1 = 1
        · rw [if_pos c10] at H
          have c10b0 : (a0_1 == 1) = true := beq_iff_eq.mpr c10
          have c10b1 : (a0_1 != 1) = false := bne_eq_false_iff_eq.mpr c10
          clear c10
          obtain rfl := Option.some.inj H
          go_enter Tryd.func22, Tryd.ntmps22
          go_wp2_with (first | ((with_reducible refine gate_dst (N := 1) rfl ?_); refine box_event ?hg (N := 1) ?hd (cs := #[.int .i64 a0_0, .int .i64 a0_1, .string a0_2]) (t := 52) ?hr ?_; (case hd => rfl); (case hg => rfl); (case hr => first | (go_simp; done) | (go_simp; rfl)); intro gb101 hg w11 hbox hb; have n0_ := Aside0.mk (below_step (by repeat (first | (with_reducible first | exact HB.out | apply below_alloc | apply pw_below_drewN | apply below_drew1) | exact HB.out)) hb); have n1_ := Aside0.mk (hbox); have n2_ := Aside0.mk ((by rw [hg]; exact (below_size (by repeat (first | (with_reducible first | exact HB.out | apply below_alloc | apply pw_below_drewN | apply below_drew1) | exact HB.out))) : w.heap.size ≤ gb101)); have n3_ := Aside0.mk ((by rw [hg]; exact (below_size (by repeat (first | (with_reducible first | exact HB.out | apply below_alloc | apply pw_below_drewN | apply below_drew1) | exact HB.out))) : w.heap.size ≤ gb101)); clear HB; have HB := n0_; have BK101 := n1_; have GW101 := n2_; have GE101 := n3_; clear n0_ n1_ n2_ n3_; clear hb hbox hg; have hcz12_0 : w11.cell? ⟨gb101, 0, none⟩ = some (.int .i64 a0_0) := (blk_cell BK101.out 0).trans rfl; have hcz12_1 : w11.cell? ⟨gb101, 1, none⟩ = some (.int .i64 a0_1) := (blk_cell BK101.out 1).trans rfl; have hcz12_2 : w11.cell? ⟨gb101, 2, none⟩ = some (.string a0_2) := (blk_cell BK101.out 2).trans rfl; have hfz12_0 := blk_frozen BK101.out 0; have hfz12_1 := blk_frozen BK101.out 1; have hfz12_2 := blk_frozen BK101.out 2) | ((with_reducible refine gate_callee (f := 49) rfl ?_); refine goesL_ (some 7) rfl rfl Tryd.func49 (by kernel_rfl) rfl #[.agg #[.int .i64 a0_0, .int .i64 a0_1, .string a0_2]] rfl (by (try simp only [List.map_toArray, List.map_cons, List.map_nil]); first | done | rfl | (simp only [List.length_drop, List.length_take]; rfl)) ?_; (with_reducible refine (instarref03_Right.calls k a0_0 a0_1 a0_2 true _ A2.out).mono ?_); rintro e w13 ⟨rfl, hb⟩; refine ⟨_, rfl, ?_⟩; have n0_ := Aside0.mk (blk_below (g := gb101) (o := .cells #[.int .i64 a0_0, .int .i64 a0_1, .string a0_2] 52 (0, 0)) (by (with_reducible repeat (first | refine blk_drewN ?_ _ | refine blk_drew ?_ | refine blk_alloc ?_ _)); exact BK101.out) hb); have n1_ := Aside0.mk (below_step (by repeat (first | (with_reducible first | exact HB.out | apply below_alloc | apply pw_below_drewN | apply below_drew1 | refine below_set ?_ GE101.out) | exact HB.out)) hb); clear BK101; clear HB; have BK101 := n0_; have HB := n1_; clear n0_ n1_; (try clear hb); (try clear hb2); (try clear hk); (try clear hi); have hcz14_0 : w13.cell? ⟨gb101, 0, none⟩ = some (.int .i64 a0_0) := (blk_cell BK101.out 0).trans rfl; have hcz14_1 : w13.cell? ⟨gb101, 1, none⟩ = some (.int .i64 a0_1) := (blk_cell BK101.out 1).trans rfl; have hcz14_2 : w13.cell? ⟨gb101, 2, none⟩ = some (.string a0_2) := (blk_cell BK101.out 2).trans rfl; have hfz14_0 := blk_frozen BK101.out 0; have hfz14_1 := blk_frozen BK101.out 1; have hfz14_2 := blk_frozen BK101.out 2))
          go_ret
          exact ⟨by first | rfl | (simp [errW_none, errW_some] <;> rfl) | (simp [*, errW_none, errW_some] <;> rfl), by repeat (first | (with_reducible first | exact HB.out | apply below_alloc | apply pw_below_drewN | apply below_drew1 | refine below_set ?_ GE101.out) | exact HB.out)⟩
        · rw [if_neg c10] at H
          have c10b0 : (a0_1 == 1) = false := beq_eq_false_iff_ne.mpr c10
          have c10b1 : (a0_1 != 1) = true := bne_iff_ne.mpr c10
          obtain rfl := Option.some.inj H
          go_enter Tryd.func22, Tryd.ntmps22
          go_wp2_with (first | ((with_reducible refine gate_dst (N := 1) rfl ?_); refine box_event ?hg (N := 1) ?hd (cs := #[.int .i64 a0_0, .int .i64 a0_1, .string a0_2]) (t := 52) ?hr ?_; (case hd => rfl); (case hg => rfl); (case hr => first | (go_simp; done) | (go_simp; rfl)); intro gb101 hg w15 hbox hb; have n0_ := Aside0.mk (below_step (by repeat (first | (with_reducible first | exact HB.out | apply below_alloc | apply pw_below_drewN | apply below_drew1) | exact HB.out)) hb); have n1_ := Aside0.mk (hbox); have n2_ := Aside0.mk ((by rw [hg]; exact (below_size (by repeat (first | (with_reducible first | exact HB.out | apply below_alloc | apply pw_below_drewN | apply below_drew1) | exact HB.out))) : w.heap.size ≤ gb101)); have n3_ := Aside0.mk ((by rw [hg]; exact (below_size (by repeat (first | (with_reducible first | exact HB.out | apply below_alloc | apply pw_below_drewN | apply below_drew1) | exact HB.out))) : w.heap.size ≤ gb101)); clear HB; have HB := n0_; have BK101 := n1_; have GW101 := n2_; have GE101 := n3_; clear n0_ n1_ n2_ n3_; clear hb hbox hg; have hcz16_0 : w15.cell? ⟨gb101, 0, none⟩ = some (.int .i64 a0_0) := (blk_cell BK101.out 0).trans rfl; have hcz16_1 : w15.cell? ⟨gb101, 1, none⟩ = some (.int .i64 a0_1) := (blk_cell BK101.out 1).trans rfl; have hcz16_2 : w15.cell? ⟨gb101, 2, none⟩ = some (.string a0_2) := (blk_cell BK101.out 2).trans rfl; have hfz16_0 := blk_frozen BK101.out 0; have hfz16_1 := blk_frozen BK101.out 1; have hfz16_2 := blk_frozen BK101.out 2) | ((with_reducible refine gate_callee (f := 49) rfl ?_); refine goesL_ (some 7) rfl rfl Tryd.func49 (by kernel_rfl) rfl #[.agg #[.int .i64 a0_0, .int .i64 a0_1, .string a0_2]] rfl (by (try simp only [List.map_toArray, List.map_cons, List.map_nil]); first | done | rfl | (simp only [List.length_drop, List.length_take]; rfl)) ?_; (with_reducible refine (instarref03_Right.calls k a0_0 a0_1 a0_2 true _ A2.out).mono ?_); rintro e w17 ⟨rfl, hb⟩; refine ⟨_, rfl, ?_⟩; have n0_ := Aside0.mk (blk_below (g := gb101) (o := .cells #[.int .i64 a0_0, .int .i64 a0_1, .string a0_2] 52 (0, 0)) (by (with_reducible repeat (first | refine blk_drewN ?_ _ | refine blk_drew ?_ | refine blk_alloc ?_ _)); exact BK101.out) hb); have n1_ := Aside0.mk (below_step (by repeat (first | (with_reducible first | exact HB.out | apply below_alloc | apply pw_below_drewN | apply below_drew1 | refine below_set ?_ GE101.out) | exact HB.out)) hb); clear BK101; clear HB; have BK101 := n0_; have HB := n1_; clear n0_ n1_; (try clear hb); (try clear hb2); (try clear hk); (try clear hi); have hcz18_0 : w17.cell? ⟨gb101, 0, none⟩ = some (.int .i64 a0_0) := (blk_cell BK101.out 0).trans rfl; have hcz18_1 : w17.cell? ⟨gb101, 1, none⟩ = some (.int .i64 a0_1) := (blk_cell BK101.out 1).trans rfl; have hcz18_2 : w17.cell? ⟨gb101, 2, none⟩ = some (.string a0_2) := (blk_cell BK101.out 2).trans rfl; have hfz18_0 := blk_frozen BK101.out 0; have hfz18_1 := blk_frozen BK101.out 1; have hfz18_2 := blk_frozen BK101.out 2))
          go_ret
          exact ⟨by first | rfl | (simp [errW_none, errW_some] <;> rfl) | (simp [*, errW_none, errW_some] <;> rfl), by repeat (first | (with_reducible first | exact HB.out | apply below_alloc | apply pw_below_drewN | apply below_drew1 | refine below_set ?_ GE101.out) | exact HB.out)⟩
      · rw [if_neg c9] at H
        have c9b0 : (a0_0 == 1) = false := beq_eq_false_iff_ne.mpr c9
        have c9b1 : (a0_0 != 1) = true := bne_iff_ne.mpr c9
        by_cases c19 : a0_0 = 4
        · rw [if_pos c19] at H
          have c19b0 : (a0_0 == 4) = true := beq_iff_eq.mpr c19
          have c19b1 : (a0_0 != 4) = false := bne_eq_false_iff_eq.mpr c19
          clear c19
          have H' := Aside0.mk H
          clear H
          go_enter Tryd.func22, Tryd.ntmps22
          go_wp2_with (first | ((with_reducible refine gate_dst (N := 1) rfl ?_); refine box_event ?hg (N := 1) ?hd (cs := #[.int .i64 a0_0, .int .i64 a0_1, .string a0_2]) (t := 52) ?hr ?_; (case hd => rfl); (case hg => rfl); (case hr => first | (go_simp; done) | (go_simp; rfl)); intro gb101 hg w20 hbox hb; have n0_ := Aside0.mk (below_step (by repeat (first | (with_reducible first | exact HB.out | apply below_alloc | apply pw_below_drewN | apply below_drew1) | exact HB.out)) hb); have n1_ := Aside0.mk (hbox); have n2_ := Aside0.mk ((by rw [hg]; exact (below_size (by repeat (first | (with_reducible first | exact HB.out | apply below_alloc | apply pw_below_drewN | apply below_drew1) | exact HB.out))) : w.heap.size ≤ gb101)); have n3_ := Aside0.mk ((by rw [hg]; exact (below_size (by repeat (first | (with_reducible first | exact HB.out | apply below_alloc | apply pw_below_drewN | apply below_drew1) | exact HB.out))) : w.heap.size ≤ gb101)); clear HB; have HB := n0_; have BK101 := n1_; have GW101 := n2_; have GE101 := n3_; clear n0_ n1_ n2_ n3_; clear hb hbox hg; have hcz21_0 : w20.cell? ⟨gb101, 0, none⟩ = some (.int .i64 a0_0) := (blk_cell BK101.out 0).trans rfl; have hcz21_1 : w20.cell? ⟨gb101, 1, none⟩ = some (.int .i64 a0_1) := (blk_cell BK101.out 1).trans rfl; have hcz21_2 : w20.cell? ⟨gb101, 2, none⟩ = some (.string a0_2) := (blk_cell BK101.out 2).trans rfl; have hfz21_0 := blk_frozen BK101.out 0; have hfz21_1 := blk_frozen BK101.out 1; have hfz21_2 := blk_frozen BK101.out 2) | ((with_reducible refine gate_callee (f := 49) rfl ?_); refine goesL_ (some 7) rfl rfl Tryd.func49 (by kernel_rfl) rfl #[.agg #[.int .i64 a0_0, .int .i64 a0_1, .string a0_2]] rfl (by (try simp only [List.map_toArray, List.map_cons, List.map_nil]); first | done | rfl | (simp only [List.length_drop, List.length_take]; rfl)) ?_; (with_reducible refine (instarref03_Right.calls k a0_0 a0_1 a0_2 true _ A2.out).mono ?_); rintro e w22 ⟨rfl, hb⟩; refine ⟨_, rfl, ?_⟩; have n0_ := Aside0.mk (blk_below (g := gb101) (o := .cells #[.int .i64 a0_0, .int .i64 a0_1, .string a0_2] 52 (0, 0)) (by (with_reducible repeat (first | refine blk_drewN ?_ _ | refine blk_drew ?_ | refine blk_alloc ?_ _)); exact BK101.out) hb); have n1_ := Aside0.mk (below_step (by repeat (first | (with_reducible first | exact HB.out | apply below_alloc | apply pw_below_drewN | apply below_drew1 | refine below_set ?_ GE101.out) | exact HB.out)) hb); clear BK101; clear HB; have BK101 := n0_; have HB := n1_; clear n0_ n1_; (try clear hb); (try clear hb2); (try clear hk); (try clear hi); have hcz23_0 : w22.cell? ⟨gb101, 0, none⟩ = some (.int .i64 a0_0) := (blk_cell BK101.out 0).trans rfl; have hcz23_1 : w22.cell? ⟨gb101, 1, none⟩ = some (.int .i64 a0_1) := (blk_cell BK101.out 1).trans rfl; have hcz23_2 : w22.cell? ⟨gb101, 2, none⟩ = some (.string a0_2) := (blk_cell BK101.out 2).trans rfl; have hfz23_0 := blk_frozen BK101.out 0; have hfz23_1 := blk_frozen BK101.out 1; have hfz23_2 := blk_frozen BK101.out 2))
          go_loopg [4, 5] k (fun kq v4 v5 w' => ∃ (x4_1 : ByteArray) (x5_1 : Int), v4 = .string x4_1 ∧ v5 = .int .i64 x5_1 ∧ Aside0 (instarref03_Show.l0 kq x4_1 x5_1 a0_0 a0_1 a0_2 = some r) ∧ Aside0 (kq ≤ k) ∧ Aside0 (w'.heap[gb101]? = some (.cells #[.int .i64 a0_0, .int .i64 a0_1, .string a0_2] 52 (0, 0))) ∧ Aside0 (Below w.heap.size w w'))
          case atStart => exact ⟨((⟨#[39]⟩ : ByteArray)), (0), (by first | rfl | (simp; done) | (simp [*]; done) | (simp [Go.Proofs.YtngeelpfbajppaaDoor.Bs.isEmpty_bne, Go.Proofs.YtngeelpfbajppaaDoor.Bs.isEmpty_beq]; done)), (by first | rfl | (simp; done) | (simp [*]; done) | (simp [Go.Proofs.YtngeelpfbajppaaDoor.Bs.isEmpty_bne, Go.Proofs.YtngeelpfbajppaaDoor.Bs.isEmpty_beq]; done)), H', ⟨Nat.le_refl _⟩, ⟨by (with_reducible repeat (first | refine blk_drewN ?_ _ | refine blk_drew ?_ | refine blk_alloc ?_ _)); exact BK101.out⟩, ⟨by repeat (first | (with_reducible first | exact HB.out | apply below_alloc | apply pw_below_drewN | apply below_drew1 | refine below_set ?_ GE101.out) | exact HB.out)⟩⟩
          case round =>
            clear H'
            try clear c1
            try clear c2
            try clear p2
            try clear c3
            try clear c4
            try clear c4b0
            try clear c4b1
            try clear c9
            try clear c9b0
            try clear c9b1
            try clear c10
            try clear c10b0
            try clear c10b1
            try clear c19
            try clear c19b0
            try clear c19b1
            try clear c22
            try clear hcz12_0
            try clear hcz12_1
            try clear hcz12_2
            try clear hcz14_0
            try clear hcz14_1
            try clear hcz14_2
            try clear hcz16_0
            try clear hcz16_1
            try clear hcz16_2
            try clear hcz18_0
            try clear hcz18_1
            try clear hcz18_2
            try clear hcz21_0
            try clear hcz21_1
            try clear hcz21_2
            try clear hcz23_0
            try clear hcz23_1
            try clear hcz23_2
            try clear hcz6_0
            try clear hcz6_1
            try clear hcz6_2
            try clear hcz8_0
            try clear hcz8_1
            try clear hcz8_2
            try clear hfz12_0
            try clear hfz12_1
            try clear hfz12_2
            try clear hfz14_0
            try clear hfz14_1
            try clear hfz14_2
            try clear hfz16_0
            try clear hfz16_1
            try clear hfz16_2
            try clear hfz18_0
            try clear hfz18_1
            try clear hfz18_2
            try clear hfz21_0
            try clear hfz21_1
            try clear hfz21_2
            try clear hfz23_0
            try clear hfz23_1
            try clear hfz23_2
            try clear hfz6_0
            try clear hfz6_1
            try clear hfz6_2
            try clear hfz8_0
            try clear hfz8_1
            try clear hfz8_2
            obtain ⟨x4_1, x5_1, rfl, rfl, HA, HK1, BK101, HB⟩ := hrel
            cases gk with
            | zero => exact absurd HA.out (by simp [instarref03_Show.l0])
            | succ k1 =>
              have H := HA.out
              clear HA
              simp only [instarref03_Show.l0] at H
              by_cases c24 : x5_1 < (a0_2.size : Int)
              · rw [if_pos c24] at H
                have c24b0 : decide (x5_1 < (a0_2.size : Int)) = true := decide_eq_true c24
                clear c24
                by_cases c25 : 0 ≤ x5_1
                · rw [if_pos c25] at H
                  have c25b0 := eq_true c25
                  have c25b1 : decide (0 ≤ x5_1) = true := decide_eq_true c25
                  clear c25
                  by_cases c26 : x5_1 ≤ (wrap64 (x5_1 + 1))
                  · rw [if_pos c26] at H
                    have c26b0 := eq_true c26
                    have c26b1 : decide (x5_1 ≤ (wrap64 (x5_1 + 1))) = true := decide_eq_true c26
                    by_cases c27 : (wrap64 (x5_1 + 1)) ≤ (a0_2.size : Int)
                    · rw [if_pos c27] at H
                      have c27b0 := eq_true c27
                      have c27b1 : decide ((wrap64 (x5_1 + 1)) ≤ (a0_2.size : Int)) = true := decide_eq_true c27
                      by_cases c28 : x4_1.size + ((((wrap64 (x5_1 + 1))).toNat - x5_1.toNat)) ≤ 9223372036854775807
                      · rw [if_pos c28] at H
                        have c28b0 := eq_true c28
                        have c28b1 : decide (x4_1.size + ((((wrap64 (x5_1 + 1))).toNat - x5_1.toNat)) ≤ 9223372036854775807) = true := decide_eq_true c28
                        try have c28b2 : (9223372036854775807 < x4_1.size + ((((wrap64 (x5_1 + 1))).toNat - x5_1.toNat))) = False := eq_false (Nat.not_lt.2 c28)
                        by_cases c30 : (bt a0_2 x5_1) = 39
                        · rw [if_pos c30] at H
                          have c30b0 : ((bt a0_2 x5_1) == 39) = true := beq_iff_eq.mpr c30
                          have c30b1 : ((bt a0_2 x5_1) != 39) = false := bne_eq_false_iff_eq.mpr c30
                          clear c30
                          by_cases c31 : x4_1.size + ((((wrap64 (x5_1 + 1))).toNat - x5_1.toNat)) + 1 ≤ 9223372036854775807
                          · rw [if_pos c31] at H
                            have c31b0 := eq_true c31
                            have c31b1 : decide (x4_1.size + ((((wrap64 (x5_1 + 1))).toNat - x5_1.toNat)) + 1 ≤ 9223372036854775807) = true := decide_eq_true c31
                            try have c31b2 : (9223372036854775807 < x4_1.size + ((((wrap64 (x5_1 + 1))).toNat - x5_1.toNat)) + 1) = False := eq_false (Nat.not_lt.2 c31)
                            have H' := Aside0.mk H
                            clear H
                            have hcz32_0 : wr.cell? ⟨gb101, 0, none⟩ = some (.int .i64 a0_0) := (blk_cell BK101.out 0).trans rfl
                            have hcz32_1 : wr.cell? ⟨gb101, 1, none⟩ = some (.int .i64 a0_1) := (blk_cell BK101.out 1).trans rfl
                            have hcz32_2 : wr.cell? ⟨gb101, 2, none⟩ = some (.string a0_2) := (blk_cell BK101.out 2).trans rfl
                            have hfz32_0 := blk_frozen BK101.out 0
                            have hfz32_1 := blk_frozen BK101.out 1
                            have hfz32_2 := blk_frozen BK101.out 2
                            have p29 : 0 ≤ (x5_1 : Int) := of_decide_eq_true (by first | (with_reducible assumption) | assumption)
                            have q29 : x5_1 < (a0_2.size : Int) := of_decide_eq_true (by first | (with_reducible assumption) | assumption)
                            have hx29 := bt_at a0_2 x5_1
                            replace p29 := eq_true p29
                            replace q29 := eq_true q29
                            go_wp2
                            go_roundg k1
                            case measure => have := HK1.out; omega
                            case rel => exact ⟨((x4_1 ++ (a0_2.extract (x5_1 : Int).toNat ((wrap64 (x5_1 + 1)) : Int).toNat)) ++ (⟨#[39]⟩ : ByteArray)), (wrap64 (x5_1 + 1)), (by first | rfl | (simp; done) | (simp [*]; done) | (simp [Go.Proofs.YtngeelpfbajppaaDoor.Bs.isEmpty_bne, Go.Proofs.YtngeelpfbajppaaDoor.Bs.isEmpty_beq]; done)), (by first | rfl | (simp; done) | (simp [*]; done) | (simp [Go.Proofs.YtngeelpfbajppaaDoor.Bs.isEmpty_bne, Go.Proofs.YtngeelpfbajppaaDoor.Bs.isEmpty_beq]; done)), H', ⟨by have := HK1.out; omega⟩, ⟨by (with_reducible repeat (first | refine blk_drewN ?_ _ | refine blk_drew ?_ | refine blk_alloc ?_ _)); exact BK101.out⟩, ⟨by repeat (first | (with_reducible first | exact HB.out | apply below_alloc | apply pw_below_drewN | apply below_drew1 | refine below_set ?_ GE101.out) | exact HB.out)⟩⟩
                          · rw [if_neg c31] at H
                            exact absurd H (by simp)
                        · rw [if_neg c30] at H
                          have c30b0 : ((bt a0_2 x5_1) == 39) = false := beq_eq_false_iff_ne.mpr c30
                          have c30b1 : ((bt a0_2 x5_1) != 39) = true := bne_iff_ne.mpr c30
                          have H' := Aside0.mk H
                          clear H
                          have hcz33_0 : wr.cell? ⟨gb101, 0, none⟩ = some (.int .i64 a0_0) := (blk_cell BK101.out 0).trans rfl
                          have hcz33_1 : wr.cell? ⟨gb101, 1, none⟩ = some (.int .i64 a0_1) := (blk_cell BK101.out 1).trans rfl
                          have hcz33_2 : wr.cell? ⟨gb101, 2, none⟩ = some (.string a0_2) := (blk_cell BK101.out 2).trans rfl
                          have hfz33_0 := blk_frozen BK101.out 0
                          have hfz33_1 := blk_frozen BK101.out 1
                          have hfz33_2 := blk_frozen BK101.out 2
                          have p29 : 0 ≤ (x5_1 : Int) := of_decide_eq_true (by first | (with_reducible assumption) | assumption)
                          have q29 : x5_1 < (a0_2.size : Int) := of_decide_eq_true (by first | (with_reducible assumption) | assumption)
                          have hx29 := bt_at a0_2 x5_1
                          replace p29 := eq_true p29
                          replace q29 := eq_true q29
                          go_wp2
                          go_roundg k1
                          case measure => have := HK1.out; omega
                          case rel => exact ⟨(x4_1 ++ (a0_2.extract (x5_1 : Int).toNat ((wrap64 (x5_1 + 1)) : Int).toNat)), (wrap64 (x5_1 + 1)), (by first | rfl | (simp; done) | (simp [*]; done) | (simp [Go.Proofs.YtngeelpfbajppaaDoor.Bs.isEmpty_bne, Go.Proofs.YtngeelpfbajppaaDoor.Bs.isEmpty_beq]; done)), (by first | rfl | (simp; done) | (simp [*]; done) | (simp [Go.Proofs.YtngeelpfbajppaaDoor.Bs.isEmpty_bne, Go.Proofs.YtngeelpfbajppaaDoor.Bs.isEmpty_beq]; done)), H', ⟨by have := HK1.out; omega⟩, ⟨by (with_reducible repeat (first | refine blk_drewN ?_ _ | refine blk_drew ?_ | refine blk_alloc ?_ _)); exact BK101.out⟩, ⟨by repeat (first | (with_reducible first | exact HB.out | apply below_alloc | apply pw_below_drewN | apply below_drew1 | refine below_set ?_ GE101.out) | exact HB.out)⟩⟩
                      · rw [if_neg c28] at H
                        exact absurd H (by simp)
                    · rw [if_neg c27] at H
                      exact absurd H (by simp)
                  · rw [if_neg c26] at H
                    exact absurd H (by simp)
                · rw [if_neg c25] at H
                  exact absurd H (by simp)
              · rw [if_neg c24] at H
                have c24b0 : decide (x5_1 < (a0_2.size : Int)) = false := decide_eq_false c24
                clear c24
                by_cases c34 : x4_1.size + 1 ≤ 9223372036854775807
                · rw [if_pos c34] at H
                  have c34b0 := eq_true c34
                  have c34b1 : decide (x4_1.size + 1 ≤ 9223372036854775807) = true := decide_eq_true c34
                  try have c34b2 : (9223372036854775807 < x4_1.size + 1) = False := eq_false (Nat.not_lt.2 c34)
                  obtain rfl := Option.some.inj H
                  have hcz35_0 : wr.cell? ⟨gb101, 0, none⟩ = some (.int .i64 a0_0) := (blk_cell BK101.out 0).trans rfl
                  have hcz35_1 : wr.cell? ⟨gb101, 1, none⟩ = some (.int .i64 a0_1) := (blk_cell BK101.out 1).trans rfl
                  have hcz35_2 : wr.cell? ⟨gb101, 2, none⟩ = some (.string a0_2) := (blk_cell BK101.out 2).trans rfl
                  have hfz35_0 := blk_frozen BK101.out 0
                  have hfz35_1 := blk_frozen BK101.out 1
                  have hfz35_2 := blk_frozen BK101.out 2
                  go_wp2
                  go_ret
                  exact ⟨by first | rfl | (simp [errW_none, errW_some] <;> rfl) | (simp [*, errW_none, errW_some] <;> rfl), by repeat (first | (with_reducible first | exact HB.out | apply below_alloc | apply pw_below_drewN | apply below_drew1 | refine below_set ?_ GE101.out) | exact HB.out)⟩
                · rw [if_neg c34] at H
                  exact absurd H (by simp)
        · rw [if_neg c19] at H
          have c19b0 : (a0_0 == 4) = false := beq_eq_false_iff_ne.mpr c19
          have c19b1 : (a0_0 != 4) = true := bne_iff_ne.mpr c19
          replace H := Option.bind_eq_some_iff.mp H
          obtain ⟨t103, A360, H⟩ := H
          replace H : (some t103) = some r := H
          have A36 := Aside0.mk A360
          clear A360
          obtain rfl := Option.some.inj H
          go_enter Tryd.func22, Tryd.ntmps22
          go_wp2_with (first | ((with_reducible refine gate_dst (N := 1) rfl ?_); refine box_event ?hg (N := 1) ?hd (cs := #[.int .i64 a0_0, .int .i64 a0_1, .string a0_2]) (t := 52) ?hr ?_; (case hd => rfl); (case hg => rfl); (case hr => first | (go_simp; done) | (go_simp; rfl)); intro gb101 hg w37 hbox hb; have n0_ := Aside0.mk (below_step (by repeat (first | (with_reducible first | exact HB.out | apply below_alloc | apply pw_below_drewN | apply below_drew1) | exact HB.out)) hb); have n1_ := Aside0.mk (hbox); have n2_ := Aside0.mk ((by rw [hg]; exact (below_size (by repeat (first | (with_reducible first | exact HB.out | apply below_alloc | apply pw_below_drewN | apply below_drew1) | exact HB.out))) : w.heap.size ≤ gb101)); have n3_ := Aside0.mk ((by rw [hg]; exact (below_size (by repeat (first | (with_reducible first | exact HB.out | apply below_alloc | apply pw_below_drewN | apply below_drew1) | exact HB.out))) : w.heap.size ≤ gb101)); clear HB; have HB := n0_; have BK101 := n1_; have GW101 := n2_; have GE101 := n3_; clear n0_ n1_ n2_ n3_; clear hb hbox hg; have hcz38_0 : w37.cell? ⟨gb101, 0, none⟩ = some (.int .i64 a0_0) := (blk_cell BK101.out 0).trans rfl; have hcz38_1 : w37.cell? ⟨gb101, 1, none⟩ = some (.int .i64 a0_1) := (blk_cell BK101.out 1).trans rfl; have hcz38_2 : w37.cell? ⟨gb101, 2, none⟩ = some (.string a0_2) := (blk_cell BK101.out 2).trans rfl; have hfz38_0 := blk_frozen BK101.out 0; have hfz38_1 := blk_frozen BK101.out 1; have hfz38_2 := blk_frozen BK101.out 2) | ((with_reducible refine gate_callee (f := 49) rfl ?_); refine goesL_ (some 7) rfl rfl Tryd.func49 (by kernel_rfl) rfl #[.agg #[.int .i64 a0_0, .int .i64 a0_1, .string a0_2]] rfl (by (try simp only [List.map_toArray, List.map_cons, List.map_nil]); first | done | rfl | (simp only [List.length_drop, List.length_take]; rfl)) ?_; (with_reducible refine (instarref03_Right.calls k a0_0 a0_1 a0_2 true _ A2.out).mono ?_); rintro e w39 ⟨rfl, hb⟩; refine ⟨_, rfl, ?_⟩; have n0_ := Aside0.mk (blk_below (g := gb101) (o := .cells #[.int .i64 a0_0, .int .i64 a0_1, .string a0_2] 52 (0, 0)) (by (with_reducible repeat (first | refine blk_drewN ?_ _ | refine blk_drew ?_ | refine blk_alloc ?_ _)); exact BK101.out) hb); have n1_ := Aside0.mk (below_step (by repeat (first | (with_reducible first | exact HB.out | apply below_alloc | apply pw_below_drewN | apply below_drew1 | refine below_set ?_ GE101.out) | exact HB.out)) hb); clear BK101; clear HB; have BK101 := n0_; have HB := n1_; clear n0_ n1_; (try clear hb); (try clear hb2); (try clear hk); (try clear hi); have hcz40_0 : w39.cell? ⟨gb101, 0, none⟩ = some (.int .i64 a0_0) := (blk_cell BK101.out 0).trans rfl; have hcz40_1 : w39.cell? ⟨gb101, 1, none⟩ = some (.int .i64 a0_1) := (blk_cell BK101.out 1).trans rfl; have hcz40_2 : w39.cell? ⟨gb101, 2, none⟩ = some (.string a0_2) := (blk_cell BK101.out 2).trans rfl; have hfz40_0 := blk_frozen BK101.out 0; have hfz40_1 := blk_frozen BK101.out 1; have hfz40_2 := blk_frozen BK101.out 2) | ((with_reducible refine gate_callee (f := 50) rfl ?_); refine goesL_ (some 47) rfl rfl Tryd.func50 (by kernel_rfl) rfl #[.int .i64 a0_1] rfl (by (try simp only [List.map_toArray, List.map_cons, List.map_nil]); first | done | rfl | (simp only [List.length_drop, List.length_take]; rfl)) ?_; (with_reducible refine (instarref03_Figures.calls k a0_1 t103 _ A36.out).mono ?_); rintro e w41 ⟨rfl, hb⟩; refine ⟨_, rfl, ?_⟩; have n0_ := Aside0.mk (blk_below (g := gb101) (o := .cells #[.int .i64 a0_0, .int .i64 a0_1, .string a0_2] 52 (0, 0)) (by (with_reducible repeat (first | refine blk_drewN ?_ _ | refine blk_drew ?_ | refine blk_alloc ?_ _)); exact BK101.out) hb); have n1_ := Aside0.mk (below_step (by repeat (first | (with_reducible first | exact HB.out | apply below_alloc | apply pw_below_drewN | apply below_drew1 | refine below_set ?_ GE101.out) | exact HB.out)) hb); clear BK101; clear HB; have BK101 := n0_; have HB := n1_; clear n0_ n1_; (try clear hb); (try clear hb2); (try clear hk); (try clear hi)))
          go_ret
          exact ⟨by first | rfl | (simp [errW_none, errW_some] <;> rfl) | (simp [*, errW_none, errW_some] <;> rfl), by repeat (first | (with_reducible first | exact HB.out | apply below_alloc | apply pw_below_drewN | apply below_drew1 | refine below_set ?_ GE101.out) | exact HB.out)⟩
  · replace c3 := Bool.eq_false_iff.mpr c3
    subst c3
    have H1 : (some (⟨#[63]⟩ : ByteArray)) = some r := by rw [if_neg (show ¬ (false = true) by decide)] at H; exact H
    clear H
    have H := H1
    clear H1
    obtain rfl := Option.some.inj H
    go_enter Tryd.func22, Tryd.ntmps22
    go_wp2_with (first | ((with_reducible refine gate_dst (N := 1) rfl ?_); refine box_event ?hg (N := 1) ?hd (cs := #[.int .i64 a0_0, .int .i64 a0_1, .string a0_2]) (t := 52) ?hr ?_; (case hd => rfl); (case hg => rfl); (case hr => first | (go_simp; done) | (go_simp; rfl)); intro gb101 hg w42 hbox hb; have n0_ := Aside0.mk (below_step (by repeat (first | (with_reducible first | exact HB.out | apply below_alloc | apply pw_below_drewN | apply below_drew1) | exact HB.out)) hb); have n1_ := Aside0.mk (hbox); have n2_ := Aside0.mk ((by rw [hg]; exact (below_size (by repeat (first | (with_reducible first | exact HB.out | apply below_alloc | apply pw_below_drewN | apply below_drew1) | exact HB.out))) : w.heap.size ≤ gb101)); have n3_ := Aside0.mk ((by rw [hg]; exact (below_size (by repeat (first | (with_reducible first | exact HB.out | apply below_alloc | apply pw_below_drewN | apply below_drew1) | exact HB.out))) : w.heap.size ≤ gb101)); clear HB; have HB := n0_; have BK101 := n1_; have GW101 := n2_; have GE101 := n3_; clear n0_ n1_ n2_ n3_; clear hb hbox hg; have hcz43_0 : w42.cell? ⟨gb101, 0, none⟩ = some (.int .i64 a0_0) := (blk_cell BK101.out 0).trans rfl; have hcz43_1 : w42.cell? ⟨gb101, 1, none⟩ = some (.int .i64 a0_1) := (blk_cell BK101.out 1).trans rfl; have hcz43_2 : w42.cell? ⟨gb101, 2, none⟩ = some (.string a0_2) := (blk_cell BK101.out 2).trans rfl; have hfz43_0 := blk_frozen BK101.out 0; have hfz43_1 := blk_frozen BK101.out 1; have hfz43_2 := blk_frozen BK101.out 2) | ((with_reducible refine gate_callee (f := 49) rfl ?_); refine goesL_ (some 7) rfl rfl Tryd.func49 (by kernel_rfl) rfl #[.agg #[.int .i64 a0_0, .int .i64 a0_1, .string a0_2]] rfl (by (try simp only [List.map_toArray, List.map_cons, List.map_nil]); first | done | rfl | (simp only [List.length_drop, List.length_take]; rfl)) ?_; (with_reducible refine (instarref03_Right.calls k a0_0 a0_1 a0_2 false _ A2.out).mono ?_); rintro e w44 ⟨rfl, hb⟩; refine ⟨_, rfl, ?_⟩; have n0_ := Aside0.mk (blk_below (g := gb101) (o := .cells #[.int .i64 a0_0, .int .i64 a0_1, .string a0_2] 52 (0, 0)) (by (with_reducible repeat (first | refine blk_drewN ?_ _ | refine blk_drew ?_ | refine blk_alloc ?_ _)); exact BK101.out) hb); have n1_ := Aside0.mk (below_step (by repeat (first | (with_reducible first | exact HB.out | apply below_alloc | apply pw_below_drewN | apply below_drew1 | refine below_set ?_ GE101.out) | exact HB.out)) hb); clear BK101; clear HB; have BK101 := n0_; have HB := n1_; clear n0_ n1_; (try clear hb); (try clear hb2); (try clear hk); (try clear hi)))
    go_ret
    exact ⟨by first | rfl | (simp [errW_none, errW_some] <;> rfl) | (simp [*, errW_none, errW_some] <;> rfl), by repeat (first | (with_reducible first | exact HB.out | apply below_alloc | apply pw_below_drewN | apply below_drew1 | refine below_set ?_ GE101.out) | exact HB.out)⟩
def instarref08_Text.l0 : Nat → List (S44) → ByteArray → Int → Option (ByteArray)
  | 0, _, _, _ => none
  | k + 1, x0, x3, x4 => if x4 < (x0.length : Int) then (if x4 > 0 then (if x3.size + 1 ≤ 9223372036854775807 then (if 0 ≤ x4 then (if ((rd_T44 x0 x4).f0) = 2 then ((instarref03_Show.f k 4 0 ((rd_T44 x0 x4).f1)).bind fun t103 => (if x3.size + 1 + t103.size ≤ 9223372036854775807 then (instarref08_Text.l0 k x0 ((x3 ++ (⟨#[32]⟩ : ByteArray)) ++ t103) (wrap64 (x4 + 1))) else (none))) else (if x3.size + 1 + ((rd_T44 x0 x4).f1).size ≤ 9223372036854775807 then (instarref08_Text.l0 k x0 ((x3 ++ (⟨#[32]⟩ : ByteArray)) ++ ((rd_T44 x0 x4).f1)) (wrap64 (x4 + 1))) else (none))) else (none)) else (none)) else (if 0 ≤ x4 then (if ((rd_T44 x0 x4).f0) = 2 then ((instarref03_Show.f k 4 0 ((rd_T44 x0 x4).f1)).bind fun t107 => (if x3.size + t107.size ≤ 9223372036854775807 then (instarref08_Text.l0 k x0 (x3 ++ t107) (wrap64 (x4 + 1))) else (none))) else (if x3.size + ((rd_T44 x0 x4).f1).size ≤ 9223372036854775807 then (instarref08_Text.l0 k x0 (x3 ++ ((rd_T44 x0 x4).f1)) (wrap64 (x4 + 1))) else (none))) else (none))) else (some x3)
def instarref08_Text.f (k : Nat) (l0 : List (S44)) : Option (ByteArray) := instarref08_Text.l0 k l0 (⟨#[]⟩ : ByteArray) 0
theorem instarref08_Text.mono_l : ∀ k, (∀ y0 y1 y2, LeO (instarref08_Text.l0 k y0 y1 y2) (instarref08_Text.l0 (k + 1) y0 y1 y2))
  | 0 => fun _ _ _ r h => by simp [instarref08_Text.l0] at h
  | k + 1 => by
    have ih0 := instarref08_Text.mono_l k
    · intro y0 y1 y2
      unfold instarref08_Text.l0
      repeat' first
      | (with_reducible exact ih0 _ _ _)
      | (with_reducible exact instarref03_Show.mono _ _ _ _)
      | (with_reducible exact LeO.refl _)
      | (with_reducible exact LeO.none _)
      | (with_reducible refine LeO.ite ?_ ?_)
      | (with_reducible refine LeO.bind ?_ (fun _ => ?_))
      | exact ih0 _ _ _
      | exact instarref03_Show.mono _ _ _ _
      | exact LeO.none _
      | refine LeO.ite ?_ ?_
      | refine LeO.bind ?_ (fun _ => ?_)
theorem instarref08_Text.mono : ∀ a0 k, LeO (instarref08_Text.f k a0) (instarref08_Text.f (k + 1) a0) := by
  intro a0 k
  have ih0 := instarref08_Text.mono_l k
  unfold instarref08_Text.f
  repeat' first
      | (with_reducible exact ih0 _ _ _)
      | (with_reducible exact instarref03_Show.mono _ _ _ _)
      | (with_reducible exact LeO.refl _)
      | (with_reducible exact LeO.none _)
      | (with_reducible refine LeO.ite ?_ ?_)
      | (with_reducible refine LeO.bind ?_ (fun _ => ?_))
      | exact ih0 _ _ _
      | exact instarref03_Show.mono _ _ _ _
      | exact LeO.none _
      | refine LeO.ite ?_ ?_
      | refine LeO.bind ?_ (fun _ => ?_)
set_option maxHeartbeats 8000000 in
set_option maxRecDepth 100000 in
theorem instarref08_Text.calls (k : Nat) (A0 : Option Addr) (c0 : Nat) (l0 : List (S44)) (r : ByteArray) (w : World) (hr0 : Kd.C k44 w A0 l0.length l0) (hc0 : l0.length ≤ c0) (h : instarref08_Text.f k l0 = some r) :
    Calls Tryd.prog 15 #[.slice A0 l0.length c0] w fun e w' => e = .returned (.string r) ∧ Below w.heap.size w w' := by
  have hu52 := Tryd.underlying52
  have HR0 := Aside0.mk hr0
  have HC0 := Aside0.mk hc0
  clear hr0 hc0
  have HB := Aside0.mk (Below.refl w.heap.size w)
  have H : (instarref08_Text.l0 k l0 (⟨#[]⟩ : ByteArray) 0) = some r := h
  clear h
  have H' := Aside0.mk H
  clear H
  go_enter Tryd.func15, Tryd.ntmps15
  go_wp2
  go_loopg [3, 4] k (fun kq v3 v4 w' => ∃ (x3_1 : ByteArray) (x4_1 : Int), v3 = .string x3_1 ∧ v4 = .int .i64 x4_1 ∧ Aside0 (instarref08_Text.l0 kq l0 x3_1 x4_1 = some r) ∧ Aside0 (kq ≤ k) ∧ Aside0 (Below w.heap.size w w'))
  case atStart => exact ⟨((⟨#[]⟩ : ByteArray)), (0), (by first | rfl | (simp; done) | (simp [*]; done) | (simp [Go.Proofs.YtngeelpfbajppaaDoor.Bs.isEmpty_bne, Go.Proofs.YtngeelpfbajppaaDoor.Bs.isEmpty_beq]; done)), (by first | rfl | (simp; done) | (simp [*]; done) | (simp [Go.Proofs.YtngeelpfbajppaaDoor.Bs.isEmpty_bne, Go.Proofs.YtngeelpfbajppaaDoor.Bs.isEmpty_beq]; done)), H', ⟨Nat.le_refl _⟩, ⟨by repeat (first | (with_reducible first | exact HB.out | apply below_alloc | apply pw_below_drewN | apply below_drew1) | exact HB.out)⟩⟩
  case round =>
    clear H'
    try clear c1
    obtain ⟨x3_1, x4_1, rfl, rfl, HA, HK1, HB⟩ := hrel
    cases gk with
    | zero => exact absurd HA.out (by simp [instarref08_Text.l0])
    | succ k1 =>
      have H := HA.out
      clear HA
      simp only [instarref08_Text.l0] at H
      by_cases c2 : x4_1 < (l0.length : Int)
      · rw [if_pos c2] at H
        have c2b0 : decide (x4_1 < (l0.length : Int)) = true := decide_eq_true c2
        clear c2
        by_cases c3 : x4_1 > 0
        · rw [if_pos c3] at H
          have c3b0 : decide (0 < x4_1) = true := decide_eq_true c3
          clear c3
          by_cases c4 : x3_1.size + 1 ≤ 9223372036854775807
          · rw [if_pos c4] at H
            have c4b0 := eq_true c4
            have c4b1 : decide (x3_1.size + 1 ≤ 9223372036854775807) = true := decide_eq_true c4
            try have c4b2 : (9223372036854775807 < x3_1.size + 1) = False := eq_false (Nat.not_lt.2 c4)
            by_cases c5 : 0 ≤ x4_1
            · rw [if_pos c5] at H
              have c5b0 : decide (0 ≤ x4_1) = true := decide_eq_true c5
              clear c5
              by_cases c6 : ((rd_T44 l0 x4_1).f0) = 2
              · rw [if_pos c6] at H
                have c6b0 : (((rd_T44 l0 x4_1).f0) == 2) = true := beq_iff_eq.mpr c6
                have c6b1 : (((rd_T44 l0 x4_1).f0) != 2) = false := bne_eq_false_iff_eq.mpr c6
                clear c6
                replace H := Option.bind_eq_some_iff.mp H
                obtain ⟨t103, A70, H⟩ := H
                replace H : (if x3_1.size + 1 + t103.size ≤ 9223372036854775807 then (instarref08_Text.l0 k1 l0 ((x3_1 ++ (⟨#[32]⟩ : ByteArray)) ++ t103) (wrap64 (x4_1 + 1))) else (none)) = some r := H
                have A7 := Aside0.mk A70
                clear A70
                by_cases c8 : x3_1.size + 1 + t103.size ≤ 9223372036854775807
                · rw [if_pos c8] at H
                  have c8b0 := eq_true c8
                  have c8b1 : decide (x3_1.size + 1 + t103.size ≤ 9223372036854775807) = true := decide_eq_true c8
                  try have c8b2 : (9223372036854775807 < x3_1.size + 1 + t103.size) = False := eq_false (Nat.not_lt.2 c8)
                  have H' := Aside0.mk H
                  clear H
                  have p101 : 0 ≤ (x4_1 : Int) := of_decide_eq_true (by first | (with_reducible assumption) | assumption)
                  have q101 : x4_1 < (l0.length : Int) := of_decide_eq_true (by first | (with_reducible assumption) | assumption)
                  obtain ⟨ad101, e101, hx101_0, hx101_1, hx101_2⟩ := at_T44 HR0.out x4_1 p101 q101
                  cases e101
                  replace hx101_0 := (HB.out.cell (World.block_lt_of_cell? w _ hx101_0)).trans hx101_0
                  replace hx101_1 := (HB.out.cell (World.block_lt_of_cell? w _ hx101_1)).trans hx101_1
                  replace hx101_2 := (HB.out.cell (World.block_lt_of_cell? w _ hx101_2)).trans hx101_2
                  replace p101 := eq_true p101
                  replace q101 := eq_true q101
                  have p102 : 0 ≤ (x4_1 : Int) := of_decide_eq_true (by first | (with_reducible assumption) | assumption)
                  have q102 : x4_1 < (l0.length : Int) := of_decide_eq_true (by first | (with_reducible assumption) | assumption)
                  obtain ⟨ad102, e102, hx102_0, hx102_1, hx102_2⟩ := at_T44 HR0.out x4_1 p102 q102
                  obtain rfl : ad101 = ad102 := (by injection e102)
                  replace hx102_0 := (HB.out.cell (World.block_lt_of_cell? w _ hx102_0)).trans hx102_0
                  replace hx102_1 := (HB.out.cell (World.block_lt_of_cell? w _ hx102_1)).trans hx102_1
                  replace hx102_2 := (HB.out.cell (World.block_lt_of_cell? w _ hx102_2)).trans hx102_2
                  replace p102 := eq_true p102
                  replace q102 := eq_true q102
                  go_wp2_with (first | ((with_reducible refine gate_callee (f := 22) rfl ?_); refine goesL_ (some 28) rfl rfl Tryd.func22 (by kernel_rfl) rfl #[.agg #[.int .i64 4, .int .i64 0, .string ((rd_T44 l0 x4_1).f1)]] rfl (by (try simp only [List.map_toArray, List.map_cons, List.map_nil]); first | done | rfl | (simp only [List.length_drop, List.length_take]; rfl)) ?_; (with_reducible refine (instarref03_Show.calls k1 4 0 ((rd_T44 l0 x4_1).f1) t103 _ A7.out).mono ?_); rintro e w9 ⟨rfl, hb⟩; refine ⟨_, rfl, ?_⟩; have n0_ := Aside0.mk (below_step (by repeat (first | (with_reducible first | exact HB.out | apply below_alloc | apply pw_below_drewN | apply below_drew1) | exact HB.out)) hb); clear HB; have HB := n0_; clear n0_; (try clear hb); (try clear hb2); (try clear hk); (try clear hi)))
                  go_roundg k1
                  case measure => have := HK1.out; omega
                  case rel => exact ⟨((x3_1 ++ (⟨#[32]⟩ : ByteArray)) ++ t103), (wrap64 (x4_1 + 1)), (by first | rfl | (simp; done) | (simp [*]; done) | (simp [Go.Proofs.YtngeelpfbajppaaDoor.Bs.isEmpty_bne, Go.Proofs.YtngeelpfbajppaaDoor.Bs.isEmpty_beq]; done)), (by first | rfl | (simp; done) | (simp [*]; done) | (simp [Go.Proofs.YtngeelpfbajppaaDoor.Bs.isEmpty_bne, Go.Proofs.YtngeelpfbajppaaDoor.Bs.isEmpty_beq]; done)), H', ⟨by have := HK1.out; omega⟩, ⟨by repeat (first | (with_reducible first | exact HB.out | apply below_alloc | apply pw_below_drewN | apply below_drew1) | exact HB.out)⟩⟩
                · rw [if_neg c8] at H
                  exact absurd H (by simp)
              · rw [if_neg c6] at H
                have c6b0 : (((rd_T44 l0 x4_1).f0) == 2) = false := beq_eq_false_iff_ne.mpr c6
                have c6b1 : (((rd_T44 l0 x4_1).f0) != 2) = true := bne_iff_ne.mpr c6
                by_cases c10 : x3_1.size + 1 + ((rd_T44 l0 x4_1).f1).size ≤ 9223372036854775807
                · rw [if_pos c10] at H
                  have c10b0 := eq_true c10
                  have c10b1 : decide (x3_1.size + 1 + ((rd_T44 l0 x4_1).f1).size ≤ 9223372036854775807) = true := decide_eq_true c10
                  try have c10b2 : (9223372036854775807 < x3_1.size + 1 + ((rd_T44 l0 x4_1).f1).size) = False := eq_false (Nat.not_lt.2 c10)
                  have H' := Aside0.mk H
                  clear H
                  have p101 : 0 ≤ (x4_1 : Int) := of_decide_eq_true (by first | (with_reducible assumption) | assumption)
                  have q101 : x4_1 < (l0.length : Int) := of_decide_eq_true (by first | (with_reducible assumption) | assumption)
                  obtain ⟨ad101, e101, hx101_0, hx101_1, hx101_2⟩ := at_T44 HR0.out x4_1 p101 q101
                  cases e101
                  replace hx101_0 := (HB.out.cell (World.block_lt_of_cell? w _ hx101_0)).trans hx101_0
                  replace hx101_1 := (HB.out.cell (World.block_lt_of_cell? w _ hx101_1)).trans hx101_1
                  replace hx101_2 := (HB.out.cell (World.block_lt_of_cell? w _ hx101_2)).trans hx101_2
                  replace p101 := eq_true p101
                  replace q101 := eq_true q101
                  have p104 : 0 ≤ (x4_1 : Int) := of_decide_eq_true (by first | (with_reducible assumption) | assumption)
                  have q104 : x4_1 < (l0.length : Int) := of_decide_eq_true (by first | (with_reducible assumption) | assumption)
                  obtain ⟨ad104, e104, hx104_0, hx104_1, hx104_2⟩ := at_T44 HR0.out x4_1 p104 q104
                  obtain rfl : ad101 = ad104 := (by injection e104)
                  replace hx104_0 := (HB.out.cell (World.block_lt_of_cell? w _ hx104_0)).trans hx104_0
                  replace hx104_1 := (HB.out.cell (World.block_lt_of_cell? w _ hx104_1)).trans hx104_1
                  replace hx104_2 := (HB.out.cell (World.block_lt_of_cell? w _ hx104_2)).trans hx104_2
                  replace p104 := eq_true p104
                  replace q104 := eq_true q104
                  go_wp2
                  go_roundg k1
                  case measure => have := HK1.out; omega
                  case rel => exact ⟨((x3_1 ++ (⟨#[32]⟩ : ByteArray)) ++ ((rd_T44 l0 x4_1).f1)), (wrap64 (x4_1 + 1)), (by first | rfl | (simp; done) | (simp [*]; done) | (simp [Go.Proofs.YtngeelpfbajppaaDoor.Bs.isEmpty_bne, Go.Proofs.YtngeelpfbajppaaDoor.Bs.isEmpty_beq]; done)), (by first | rfl | (simp; done) | (simp [*]; done) | (simp [Go.Proofs.YtngeelpfbajppaaDoor.Bs.isEmpty_bne, Go.Proofs.YtngeelpfbajppaaDoor.Bs.isEmpty_beq]; done)), H', ⟨by have := HK1.out; omega⟩, ⟨by repeat (first | (with_reducible first | exact HB.out | apply below_alloc | apply pw_below_drewN | apply below_drew1) | exact HB.out)⟩⟩
                · rw [if_neg c10] at H
                  exact absurd H (by simp)
            · rw [if_neg c5] at H
              exact absurd H (by simp)
          · rw [if_neg c4] at H
            exact absurd H (by simp)
        · rw [if_neg c3] at H
          have c3b0 : decide (0 < x4_1) = false := decide_eq_false c3
          clear c3
          by_cases c11 : 0 ≤ x4_1
          · rw [if_pos c11] at H
            have c11b0 : decide (0 ≤ x4_1) = true := decide_eq_true c11
            clear c11
            by_cases c12 : ((rd_T44 l0 x4_1).f0) = 2
            · rw [if_pos c12] at H
              have c12b0 : (((rd_T44 l0 x4_1).f0) == 2) = true := beq_iff_eq.mpr c12
              have c12b1 : (((rd_T44 l0 x4_1).f0) != 2) = false := bne_eq_false_iff_eq.mpr c12
              clear c12
              replace H := Option.bind_eq_some_iff.mp H
              obtain ⟨t107, A130, H⟩ := H
              replace H : (if x3_1.size + t107.size ≤ 9223372036854775807 then (instarref08_Text.l0 k1 l0 (x3_1 ++ t107) (wrap64 (x4_1 + 1))) else (none)) = some r := H
              have A13 := Aside0.mk A130
              clear A130
              by_cases c14 : x3_1.size + t107.size ≤ 9223372036854775807
              · rw [if_pos c14] at H
                have c14b0 := eq_true c14
                have c14b1 : decide (x3_1.size + t107.size ≤ 9223372036854775807) = true := decide_eq_true c14
                try have c14b2 : (9223372036854775807 < x3_1.size + t107.size) = False := eq_false (Nat.not_lt.2 c14)
                have H' := Aside0.mk H
                clear H
                have p105 : 0 ≤ (x4_1 : Int) := of_decide_eq_true (by first | (with_reducible assumption) | assumption)
                have q105 : x4_1 < (l0.length : Int) := of_decide_eq_true (by first | (with_reducible assumption) | assumption)
                obtain ⟨ad105, e105, hx105_0, hx105_1, hx105_2⟩ := at_T44 HR0.out x4_1 p105 q105
                cases e105
                replace hx105_0 := (HB.out.cell (World.block_lt_of_cell? w _ hx105_0)).trans hx105_0
                replace hx105_1 := (HB.out.cell (World.block_lt_of_cell? w _ hx105_1)).trans hx105_1
                replace hx105_2 := (HB.out.cell (World.block_lt_of_cell? w _ hx105_2)).trans hx105_2
                replace p105 := eq_true p105
                replace q105 := eq_true q105
                have p106 : 0 ≤ (x4_1 : Int) := of_decide_eq_true (by first | (with_reducible assumption) | assumption)
                have q106 : x4_1 < (l0.length : Int) := of_decide_eq_true (by first | (with_reducible assumption) | assumption)
                obtain ⟨ad106, e106, hx106_0, hx106_1, hx106_2⟩ := at_T44 HR0.out x4_1 p106 q106
                obtain rfl : ad105 = ad106 := (by injection e106)
                replace hx106_0 := (HB.out.cell (World.block_lt_of_cell? w _ hx106_0)).trans hx106_0
                replace hx106_1 := (HB.out.cell (World.block_lt_of_cell? w _ hx106_1)).trans hx106_1
                replace hx106_2 := (HB.out.cell (World.block_lt_of_cell? w _ hx106_2)).trans hx106_2
                replace p106 := eq_true p106
                replace q106 := eq_true q106
                go_wp2_with (first | ((with_reducible refine gate_callee (f := 22) rfl ?_); refine goesL_ (some 28) rfl rfl Tryd.func22 (by kernel_rfl) rfl #[.agg #[.int .i64 4, .int .i64 0, .string ((rd_T44 l0 x4_1).f1)]] rfl (by (try simp only [List.map_toArray, List.map_cons, List.map_nil]); first | done | rfl | (simp only [List.length_drop, List.length_take]; rfl)) ?_; (with_reducible refine (instarref03_Show.calls k1 4 0 ((rd_T44 l0 x4_1).f1) t107 _ A13.out).mono ?_); rintro e w15 ⟨rfl, hb⟩; refine ⟨_, rfl, ?_⟩; have n0_ := Aside0.mk (below_step (by repeat (first | (with_reducible first | exact HB.out | apply below_alloc | apply pw_below_drewN | apply below_drew1) | exact HB.out)) hb); clear HB; have HB := n0_; clear n0_; (try clear hb); (try clear hb2); (try clear hk); (try clear hi)))
                go_roundg k1
                case measure => have := HK1.out; omega
                case rel => exact ⟨(x3_1 ++ t107), (wrap64 (x4_1 + 1)), (by first | rfl | (simp; done) | (simp [*]; done) | (simp [Go.Proofs.YtngeelpfbajppaaDoor.Bs.isEmpty_bne, Go.Proofs.YtngeelpfbajppaaDoor.Bs.isEmpty_beq]; done)), (by first | rfl | (simp; done) | (simp [*]; done) | (simp [Go.Proofs.YtngeelpfbajppaaDoor.Bs.isEmpty_bne, Go.Proofs.YtngeelpfbajppaaDoor.Bs.isEmpty_beq]; done)), H', ⟨by have := HK1.out; omega⟩, ⟨by repeat (first | (with_reducible first | exact HB.out | apply below_alloc | apply pw_below_drewN | apply below_drew1) | exact HB.out)⟩⟩
              · rw [if_neg c14] at H
                exact absurd H (by simp)
            · rw [if_neg c12] at H
              have c12b0 : (((rd_T44 l0 x4_1).f0) == 2) = false := beq_eq_false_iff_ne.mpr c12
              have c12b1 : (((rd_T44 l0 x4_1).f0) != 2) = true := bne_iff_ne.mpr c12
              by_cases c16 : x3_1.size + ((rd_T44 l0 x4_1).f1).size ≤ 9223372036854775807
              · rw [if_pos c16] at H
                have c16b0 := eq_true c16
                have c16b1 : decide (x3_1.size + ((rd_T44 l0 x4_1).f1).size ≤ 9223372036854775807) = true := decide_eq_true c16
                try have c16b2 : (9223372036854775807 < x3_1.size + ((rd_T44 l0 x4_1).f1).size) = False := eq_false (Nat.not_lt.2 c16)
                have H' := Aside0.mk H
                clear H
                have p105 : 0 ≤ (x4_1 : Int) := of_decide_eq_true (by first | (with_reducible assumption) | assumption)
                have q105 : x4_1 < (l0.length : Int) := of_decide_eq_true (by first | (with_reducible assumption) | assumption)
                obtain ⟨ad105, e105, hx105_0, hx105_1, hx105_2⟩ := at_T44 HR0.out x4_1 p105 q105
                cases e105
                replace hx105_0 := (HB.out.cell (World.block_lt_of_cell? w _ hx105_0)).trans hx105_0
                replace hx105_1 := (HB.out.cell (World.block_lt_of_cell? w _ hx105_1)).trans hx105_1
                replace hx105_2 := (HB.out.cell (World.block_lt_of_cell? w _ hx105_2)).trans hx105_2
                replace p105 := eq_true p105
                replace q105 := eq_true q105
                have p108 : 0 ≤ (x4_1 : Int) := of_decide_eq_true (by first | (with_reducible assumption) | assumption)
                have q108 : x4_1 < (l0.length : Int) := of_decide_eq_true (by first | (with_reducible assumption) | assumption)
                obtain ⟨ad108, e108, hx108_0, hx108_1, hx108_2⟩ := at_T44 HR0.out x4_1 p108 q108
                obtain rfl : ad105 = ad108 := (by injection e108)
                replace hx108_0 := (HB.out.cell (World.block_lt_of_cell? w _ hx108_0)).trans hx108_0
                replace hx108_1 := (HB.out.cell (World.block_lt_of_cell? w _ hx108_1)).trans hx108_1
                replace hx108_2 := (HB.out.cell (World.block_lt_of_cell? w _ hx108_2)).trans hx108_2
                replace p108 := eq_true p108
                replace q108 := eq_true q108
                go_wp2
                go_roundg k1
                case measure => have := HK1.out; omega
                case rel => exact ⟨(x3_1 ++ ((rd_T44 l0 x4_1).f1)), (wrap64 (x4_1 + 1)), (by first | rfl | (simp; done) | (simp [*]; done) | (simp [Go.Proofs.YtngeelpfbajppaaDoor.Bs.isEmpty_bne, Go.Proofs.YtngeelpfbajppaaDoor.Bs.isEmpty_beq]; done)), (by first | rfl | (simp; done) | (simp [*]; done) | (simp [Go.Proofs.YtngeelpfbajppaaDoor.Bs.isEmpty_bne, Go.Proofs.YtngeelpfbajppaaDoor.Bs.isEmpty_beq]; done)), H', ⟨by have := HK1.out; omega⟩, ⟨by repeat (first | (with_reducible first | exact HB.out | apply below_alloc | apply pw_below_drewN | apply below_drew1) | exact HB.out)⟩⟩
              · rw [if_neg c16] at H
                exact absurd H (by simp)
          · rw [if_neg c11] at H
            exact absurd H (by simp)
      · rw [if_neg c2] at H
        have c2b0 : decide (x4_1 < (l0.length : Int)) = false := decide_eq_false c2
        clear c2
        obtain rfl := Option.some.inj H
        go_wp2
        go_ret
        exact ⟨by first | rfl | (simp [errW_none, errW_some] <;> rfl) | (simp [*, errW_none, errW_some] <;> rfl), by repeat (first | (with_reducible first | exact HB.out | apply below_alloc | apply pw_below_drewN | apply below_drew1) | exact HB.out)⟩
end Go.Proofs.YtngeelpfbajppaaDoor.PB
end
section
namespace Go.Proofs.YtngeelpfbajppaaDoor.PB
open Go.RowKit Go.Proofs.YtngeelpfbajppaaDoorW.PrintWords Go.Proofs.YtngeelpfbajppaaDoorW.PrintLast Go.Proofs.YtngeelpfbajppaaDoorW.PrintMore
attribute [local go_sem] max2_int min2_int max_two min_two max_three min_three max_four min_four
attribute [local go_sem high] Go.Proofs.YtngeelpfbajppaaDoor.Bs.gtr_bl Go.Proofs.YtngeelpfbajppaaDoor.Bs.leq_bl Go.Proofs.YtngeelpfbajppaaDoor.Bs.cell_set2
set_option linter.unusedVariables false
set_option linter.unusedSimpArgs false
mutual
def instarlaw08_LexTexts.j1 : Nat → List (S35) → Int → Option (Bool)
  | 0, _, _ => none
  | k + 1, x0, x3 => if (x0.length : Int) > 100 then (instarlaw08_LexTexts.j2 k x0 true) else (instarlaw08_LexTexts.j2 k x0 (decide (x3 > 600)))
def instarlaw08_LexTexts.j2 : Nat → List (S35) → Bool → Option (Bool)
  | 0, _, _ => none
  | k + 1, x0, x29 => if x29 = true then ((instarlaw08_alive.f k).bind fun t102 => (some t102)) else ((instarlaw08_alive.f k).bind fun t103 => (if t103 = true then ((lex_Text.f k x0).bind fun t104 => ((instarlaw08_To.f k x0).bind fun t105 => ((instarref08_Text.f k t105).bind fun t108 => (some (t104.toList == t108.toList))))) else (some false)))
def instarlaw08_LexTexts.l0 : Nat → List (S35) → Int → Int → Option (Bool)
  | 0, _, _, _ => none
  | k + 1, x0, x3, x4 => if x4 < (x0.length : Int) then (if x4 ≤ 100 then (if 0 ≤ x4 then (instarlaw08_LexTexts.l0 k x0 (wrap64 (x3 + (((rd_T35 x0 x4).f1).size : Int))) (wrap64 (x4 + 1))) else (none)) else (instarlaw08_LexTexts.j1 k x0 x3)) else (instarlaw08_LexTexts.j1 k x0 x3)
end
def instarlaw08_LexTexts.f (k : Nat) (l0 : List (S35)) : Option (Bool) := instarlaw08_LexTexts.l0 k l0 0 0
theorem instarlaw08_LexTexts.mono_l : ∀ k, (∀ y0 y1, LeO (instarlaw08_LexTexts.j1 k y0 y1) (instarlaw08_LexTexts.j1 (k + 1) y0 y1)) ∧ (∀ y0 y1, LeO (instarlaw08_LexTexts.j2 k y0 y1) (instarlaw08_LexTexts.j2 (k + 1) y0 y1)) ∧ (∀ y0 y1 y2, LeO (instarlaw08_LexTexts.l0 k y0 y1 y2) (instarlaw08_LexTexts.l0 (k + 1) y0 y1 y2))
  | 0 => ⟨fun _ _ r h => by simp [instarlaw08_LexTexts.j1] at h, fun _ _ r h => by simp [instarlaw08_LexTexts.j2] at h, fun _ _ _ r h => by simp [instarlaw08_LexTexts.l0] at h⟩
  | k + 1 => by
    obtain ⟨ih0, ih1, ih2⟩ := instarlaw08_LexTexts.mono_l k
    refine ⟨?_, ?_, ?_⟩
    · intro y0 y1
      unfold instarlaw08_LexTexts.j1
      repeat' first
      | (with_reducible exact ih0 _ _)
      | (with_reducible exact ih1 _ _)
      | (with_reducible exact ih2 _ _ _)
      | (with_reducible exact instarlaw08_To.mono _ _)
      | (with_reducible exact instarlaw08_alive.mono _)
      | (with_reducible exact instarref08_Text.mono _ _)
      | (with_reducible exact lex_Text.mono _ _)
      | (with_reducible exact LeO.refl _)
      | (with_reducible exact LeO.none _)
      | (with_reducible refine LeO.ite ?_ ?_)
      | (with_reducible refine LeO.bind ?_ (fun _ => ?_))
      | exact ih0 _ _
      | exact ih1 _ _
      | exact ih2 _ _ _
      | exact instarlaw08_To.mono _ _
      | exact instarlaw08_alive.mono _
      | exact instarref08_Text.mono _ _
      | exact lex_Text.mono _ _
      | exact LeO.none _
      | refine LeO.ite ?_ ?_
      | refine LeO.bind ?_ (fun _ => ?_)
    · intro y0 y1
      unfold instarlaw08_LexTexts.j2
      repeat' first
      | (with_reducible exact ih0 _ _)
      | (with_reducible exact ih1 _ _)
      | (with_reducible exact ih2 _ _ _)
      | (with_reducible exact instarlaw08_To.mono _ _)
      | (with_reducible exact instarlaw08_alive.mono _)
      | (with_reducible exact instarref08_Text.mono _ _)
      | (with_reducible exact lex_Text.mono _ _)
      | (with_reducible exact LeO.refl _)
      | (with_reducible exact LeO.none _)
      | (with_reducible refine LeO.ite ?_ ?_)
      | (with_reducible refine LeO.bind ?_ (fun _ => ?_))
      | exact ih0 _ _
      | exact ih1 _ _
      | exact ih2 _ _ _
      | exact instarlaw08_To.mono _ _
      | exact instarlaw08_alive.mono _
      | exact instarref08_Text.mono _ _
      | exact lex_Text.mono _ _
      | exact LeO.none _
      | refine LeO.ite ?_ ?_
      | refine LeO.bind ?_ (fun _ => ?_)
    · intro y0 y1 y2
      unfold instarlaw08_LexTexts.l0
      repeat' first
      | (with_reducible exact ih0 _ _)
      | (with_reducible exact ih1 _ _)
      | (with_reducible exact ih2 _ _ _)
      | (with_reducible exact instarlaw08_To.mono _ _)
      | (with_reducible exact instarlaw08_alive.mono _)
      | (with_reducible exact instarref08_Text.mono _ _)
      | (with_reducible exact lex_Text.mono _ _)
      | (with_reducible exact LeO.refl _)
      | (with_reducible exact LeO.none _)
      | (with_reducible refine LeO.ite ?_ ?_)
      | (with_reducible refine LeO.bind ?_ (fun _ => ?_))
      | exact ih0 _ _
      | exact ih1 _ _
      | exact ih2 _ _ _
      | exact instarlaw08_To.mono _ _
      | exact instarlaw08_alive.mono _
      | exact instarref08_Text.mono _ _
      | exact lex_Text.mono _ _
      | exact LeO.none _
      | refine LeO.ite ?_ ?_
      | refine LeO.bind ?_ (fun _ => ?_)
theorem instarlaw08_LexTexts.mono : ∀ a0 k, LeO (instarlaw08_LexTexts.f k a0) (instarlaw08_LexTexts.f (k + 1) a0) := by
  intro a0 k
  obtain ⟨ih0, ih1, ih2⟩ := instarlaw08_LexTexts.mono_l k
  unfold instarlaw08_LexTexts.f
  repeat' first
      | (with_reducible exact ih0 _ _)
      | (with_reducible exact ih1 _ _)
      | (with_reducible exact ih2 _ _ _)
      | (with_reducible exact instarlaw08_To.mono _ _)
      | (with_reducible exact instarlaw08_alive.mono _)
      | (with_reducible exact instarref08_Text.mono _ _)
      | (with_reducible exact lex_Text.mono _ _)
      | (with_reducible exact LeO.refl _)
      | (with_reducible exact LeO.none _)
      | (with_reducible refine LeO.ite ?_ ?_)
      | (with_reducible refine LeO.bind ?_ (fun _ => ?_))
      | exact ih0 _ _
      | exact ih1 _ _
      | exact ih2 _ _ _
      | exact instarlaw08_To.mono _ _
      | exact instarlaw08_alive.mono _
      | exact instarref08_Text.mono _ _
      | exact lex_Text.mono _ _
      | exact LeO.none _
      | refine LeO.ite ?_ ?_
      | refine LeO.bind ?_ (fun _ => ?_)
set_option maxHeartbeats 8000000 in
set_option maxRecDepth 100000 in
theorem instarlaw08_LexTexts.calls (k : Nat) (A0 : Option Addr) (c0 : Nat) (l0 : List (S35)) (r : Bool) (w : World) (hr0 : Kd.C k35 w A0 l0.length l0) (hc0 : l0.length ≤ c0) (hG : Go.Proofs.YtngeelpfbajppaaDoor.Bs.Gl w) (hr_ : Aside0 (r = true)) (h : instarlaw08_LexTexts.f k l0 = some r) :
    Calls Tryd.prog 4 #[.slice A0 l0.length c0] w fun e w' => e = .returned (.bool r) ∧ Below w.heap.size w w' := by
  have HR0 := Aside0.mk hr0
  have HC0 := Aside0.mk hc0
  clear hr0 hc0
  have HB := Aside0.mk (Below.refl w.heap.size w)
  have H : (instarlaw08_LexTexts.l0 k l0 0 0) = some r := h
  clear h
  have HC2 := Aside0.mk H
  clear H
  go_enter Tryd.func4, Tryd.ntmps4
  go_upto_block 0 with (fail)
  go_cut [3] (fun v3 wc => ∃ (kq : Nat) (x3_1 : Int), v3 = .int .i64 x3_1 ∧ Aside0 (instarlaw08_LexTexts.j1 kq l0 x3_1 = some r) ∧ Aside0 (kq ≤ k) ∧ Aside0 (Below w.heap.size w wc))
  case first =>
    have H := HC2.out
    clear HC2
    have H' := Aside0.mk H
    clear H
    go_wp2
    go_loopg [3, 4] k (fun kq v3 v4 w' => ∃ (x3_1 : Int) (x4_1 : Int), v3 = .int .i64 x3_1 ∧ v4 = .int .i64 x4_1 ∧ Aside0 (instarlaw08_LexTexts.l0 kq l0 x3_1 x4_1 = some r) ∧ Aside0 (kq ≤ k) ∧ Aside0 (Below w.heap.size w w'))
    case atStart => exact ⟨(0), (0), (by first | rfl | (simp; done) | (simp [*]; done) | (simp [Go.Proofs.YtngeelpfbajppaaDoor.Bs.isEmpty_bne, Go.Proofs.YtngeelpfbajppaaDoor.Bs.isEmpty_beq]; done)), (by first | rfl | (simp; done) | (simp [*]; done) | (simp [Go.Proofs.YtngeelpfbajppaaDoor.Bs.isEmpty_bne, Go.Proofs.YtngeelpfbajppaaDoor.Bs.isEmpty_beq]; done)), H', ⟨Nat.le_refl _⟩, ⟨by repeat (first | (with_reducible first | exact HB.out | apply below_alloc | apply pw_below_drewN | apply below_drew1) | exact HB.out)⟩⟩
    case round =>
      clear H'
      try clear p2
      obtain ⟨x3_1, x4_1, rfl, rfl, HA, HK1, HB⟩ := hrel
      cases gk with
      | zero => exact absurd HA.out (by simp [instarlaw08_LexTexts.l0])
      | succ k1 =>
        have H := HA.out
        clear HA
        simp only [instarlaw08_LexTexts.l0] at H
        by_cases c3 : x4_1 < (l0.length : Int)
        · rw [if_pos c3] at H
          have c3b0 : decide (x4_1 < (l0.length : Int)) = true := decide_eq_true c3
          clear c3
          (first | rw [c3b0] | (simp only [i64_w, i32_w]; rw [c3b0]) | skip)
          by_cases c4 : x4_1 ≤ 100
          · rw [if_pos c4] at H
            have c4b0 : decide (x4_1 ≤ 100) = true := decide_eq_true c4
            clear c4
            by_cases c5 : 0 ≤ x4_1
            · rw [if_pos c5] at H
              have c5b0 : decide (0 ≤ x4_1) = true := decide_eq_true c5
              clear c5
              have H' := Aside0.mk H
              clear H
              have p101 : 0 ≤ (x4_1 : Int) := of_decide_eq_true (by first | (with_reducible assumption) | assumption)
              have q101 : x4_1 < (l0.length : Int) := of_decide_eq_true (by first | (with_reducible assumption) | assumption)
              obtain ⟨ad101, e101, hx101_0, hx101_1, hx101_2⟩ := at_T35 HR0.out x4_1 p101 q101
              cases e101
              replace hx101_0 := (HB.out.cell (World.block_lt_of_cell? w _ hx101_0)).trans hx101_0
              replace hx101_1 := (HB.out.cell (World.block_lt_of_cell? w _ hx101_1)).trans hx101_1
              replace hx101_2 := (HB.out.cell (World.block_lt_of_cell? w _ hx101_2)).trans hx101_2
              replace p101 := eq_true p101
              replace q101 := eq_true q101
              go_wp2
              go_roundg k1
              case measure => have := HK1.out; omega
              case rel => exact ⟨(wrap64 (x3_1 + (((rd_T35 l0 x4_1).f1).size : Int))), (wrap64 (x4_1 + 1)), (by first | rfl | (simp; done) | (simp [*]; done) | (simp [Go.Proofs.YtngeelpfbajppaaDoor.Bs.isEmpty_bne, Go.Proofs.YtngeelpfbajppaaDoor.Bs.isEmpty_beq]; done)), (by first | rfl | (simp; done) | (simp [*]; done) | (simp [Go.Proofs.YtngeelpfbajppaaDoor.Bs.isEmpty_bne, Go.Proofs.YtngeelpfbajppaaDoor.Bs.isEmpty_beq]; done)), H', ⟨by have := HK1.out; omega⟩, ⟨by repeat (first | (with_reducible first | exact HB.out | apply below_alloc | apply pw_below_drewN | apply below_drew1) | exact HB.out)⟩⟩
            · rw [if_neg c5] at H
              exact absurd H (by simp)
          · rw [if_neg c4] at H
            have c4b0 : decide (x4_1 ≤ 100) = false := decide_eq_false c4
            clear c4
            have H' := Aside0.mk H
            clear H
            go_wp2
            go_meet
            case rel => exact ⟨_, (x3_1), (by first | rfl | (simp; done) | (simp [*]; done) | (simp [Go.Proofs.YtngeelpfbajppaaDoor.Bs.isEmpty_bne, Go.Proofs.YtngeelpfbajppaaDoor.Bs.isEmpty_beq]; done)), H', ⟨by have := HK1.out; first | omega | exact Nat.le_refl _⟩, ⟨by repeat (first | (with_reducible first | exact HB.out | apply below_alloc | apply pw_below_drewN | apply below_drew1) | exact HB.out)⟩⟩
        · rw [if_neg c3] at H
          have c3b0 : decide (x4_1 < (l0.length : Int)) = false := decide_eq_false c3
          clear c3
          (first | rw [c3b0] | (simp only [i64_w, i32_w]; rw [c3b0]) | skip)
          have H' := Aside0.mk H
          clear H
          go_wp2
          go_meet
          case rel => exact ⟨_, (x3_1), (by first | rfl | (simp; done) | (simp [*]; done) | (simp [Go.Proofs.YtngeelpfbajppaaDoor.Bs.isEmpty_bne, Go.Proofs.YtngeelpfbajppaaDoor.Bs.isEmpty_beq]; done)), H', ⟨by have := HK1.out; first | omega | exact Nat.le_refl _⟩, ⟨by repeat (first | (with_reducible first | exact HB.out | apply below_alloc | apply pw_below_drewN | apply below_drew1) | exact HB.out)⟩⟩
  case rest =>
    clear HC2
    try clear p1
    try clear q1
    try clear hx1
    try clear p2
    try clear c3
    try clear c3b0
    try clear c4
    try clear c4b0
    try clear c5
    try clear c5b0
    try clear hx101_0
    try clear hx101_1
    try clear hx101_2
    try clear p101
    try clear p2
    try clear q101
    obtain ⟨kq, x3_1, rfl, HA, HJ1, HB⟩ := hcut
    cases kq with
    | zero => exact absurd HA.out (by simp [instarlaw08_LexTexts.j1])
    | succ kj1 =>
      have H := HA.out
      clear HA
      simp only [instarlaw08_LexTexts.j1] at H
      have HC6 := Aside0.mk H
      clear H
      go_upto_region 6 with (fail)
      go_cut [29] (fun v29 wc => ∃ (kq : Nat) (x29_5 : Bool), v29 = .bool x29_5 ∧ Aside0 (instarlaw08_LexTexts.j2 kq l0 x29_5 = some r) ∧ Aside0 (kq ≤ kj1) ∧ Aside0 (Below w.heap.size w wc))
      case first =>
        have H := HC6.out
        clear HC6
        by_cases c7 : (l0.length : Int) > 100
        · rw [if_pos c7] at H
          have c7b0 : decide (100 < (l0.length : Int)) = true := decide_eq_true c7
          have c7b1 : decide (100 < l0.length) = true := decide_eq_true (by omega)
          clear c7
          (first | rw [c7b0] | (simp only [i64_w, i32_w]; rw [c7b0]) | skip)
          have H' := Aside0.mk H
          clear H
          go_wp2
          go_meet
          case rel => exact ⟨_, (true), (by first | rfl | (simp; done) | (simp [*]; done) | (simp [Go.Proofs.YtngeelpfbajppaaDoor.Bs.isEmpty_bne, Go.Proofs.YtngeelpfbajppaaDoor.Bs.isEmpty_beq]; done)), H', ⟨by have := HJ1.out; first | omega | exact Nat.le_refl _⟩, ⟨by repeat (first | (with_reducible first | exact HB.out | apply below_alloc | apply pw_below_drewN | apply below_drew1) | exact HB.out)⟩⟩
        · rw [if_neg c7] at H
          have c7b0 : decide (100 < (l0.length : Int)) = false := decide_eq_false c7
          have c7b1 : decide (100 < l0.length) = false := decide_eq_false (by omega)
          clear c7
          (first | rw [c7b0] | (simp only [i64_w, i32_w]; rw [c7b0]) | skip)
          have H' := Aside0.mk H
          clear H
          go_wp2
          go_meet
          case rel => exact ⟨_, (decide (x3_1 > 600)), (by first | rfl | (simp; done) | (simp [*]; done) | (simp [Go.Proofs.YtngeelpfbajppaaDoor.Bs.isEmpty_bne, Go.Proofs.YtngeelpfbajppaaDoor.Bs.isEmpty_beq]; done)), H', ⟨by have := HJ1.out; first | omega | exact Nat.le_refl _⟩, ⟨by repeat (first | (with_reducible first | exact HB.out | apply below_alloc | apply pw_below_drewN | apply below_drew1) | exact HB.out)⟩⟩
      case rest =>
        clear HC6
        try clear p1
        try clear q1
        try clear hx1
        try clear p2
        try clear c3
        try clear c3b0
        try clear c4
        try clear c4b0
        try clear c5
        try clear c5b0
        try clear p6
        try clear c7
        try clear c7b0
        try clear c7b1
        try clear hx101_0
        try clear hx101_1
        try clear hx101_2
        try clear p1
        try clear p101
        try clear p2
        try clear q1
        try clear q101
        obtain ⟨kq, x29_5, rfl, HA, HJ5, HB⟩ := hcut
        cases kq with
        | zero => exact absurd HA.out (by simp [instarlaw08_LexTexts.j2])
        | succ kj5 =>
          have H := HA.out
          clear HA
          simp only [instarlaw08_LexTexts.j2] at H
          by_cases c8 : x29_5 = true
          · subst c8
            have H1 : ((instarlaw08_alive.f kj5).bind fun t102 => (some t102)) = some r := by rw [if_pos rfl] at H; exact H
            clear H
            have H := H1
            clear H1
            replace H := Option.bind_eq_some_iff.mp H
            obtain ⟨t102, A90, H⟩ := H
            replace H : (some t102) = some r := H
            have A9 := Aside0.mk A90
            clear A90
            obtain rfl := Option.some.inj H
            go_wp2_with (first | ((with_reducible refine gate_callee (f := 7) rfl ?_); refine goesL_ (some 30) rfl rfl Tryd.func7 (by kernel_rfl) rfl #[] rfl (by (try simp only [List.map_toArray, List.map_cons, List.map_nil]); first | done | rfl | (simp only [List.length_drop, List.length_take]; rfl)) ?_; (with_reducible refine (instarlaw08_alive.calls kj5  t102 _ ?side1 A9.out).mono ?_); (case side1 => first | exact hG | exact Go.Proofs.YtngeelpfbajppaaDoor.Bs.Gl.below hG (by repeat (first | (with_reducible first | exact HB.out | apply below_alloc | apply pw_below_drewN | apply below_drew1) | exact HB.out)) | (repeat (first | exact hG | refine Go.Proofs.YtngeelpfbajppaaDoor.Bs.Gl.drewN ?_ _))); rintro e w10 ⟨rfl, hb⟩; refine ⟨_, rfl, ?_⟩; have n0_ := Aside0.mk (below_step (by repeat (first | (with_reducible first | exact HB.out | apply below_alloc | apply pw_below_drewN | apply below_drew1) | exact HB.out)) hb); clear HB; have HB := n0_; clear n0_; (try clear hb); (try clear hb2); (try clear hk); (try clear hi)))
            go_ret
            exact ⟨by first | rfl | (simp [errW_none, errW_some] <;> rfl) | (simp [*, errW_none, errW_some] <;> rfl), by repeat (first | (with_reducible first | exact HB.out | apply below_alloc | apply pw_below_drewN | apply below_drew1) | exact HB.out)⟩
          · replace c8 := Bool.eq_false_iff.mpr c8
            subst c8
            have H1 : ((instarlaw08_alive.f kj5).bind fun t103 => (if t103 = true then ((lex_Text.f kj5 l0).bind fun t104 => ((instarlaw08_To.f kj5 l0).bind fun t105 => ((instarref08_Text.f kj5 t105).bind fun t108 => (some (t104.toList == t108.toList))))) else (some false))) = some r := by rw [if_neg (show ¬ (false = true) by decide)] at H; exact H
            clear H
            have H := H1
            clear H1
            replace H := Option.bind_eq_some_iff.mp H
            obtain ⟨t103, A110, H⟩ := H
            replace H : (if t103 = true then ((lex_Text.f kj5 l0).bind fun t104 => ((instarlaw08_To.f kj5 l0).bind fun t105 => ((instarref08_Text.f kj5 t105).bind fun t108 => (some (t104.toList == t108.toList))))) else (some false)) = some r := H
            have A11 := Aside0.mk A110
            clear A110
            by_cases c12 : t103 = true
            · subst c12
              have H1 : ((lex_Text.f kj5 l0).bind fun t104 => ((instarlaw08_To.f kj5 l0).bind fun t105 => ((instarref08_Text.f kj5 t105).bind fun t108 => (some (t104.toList == t108.toList))))) = some r := by rw [if_pos rfl] at H; exact H
              clear H
              have H := H1
              clear H1
              replace H := Option.bind_eq_some_iff.mp H
              obtain ⟨t104, A130, H⟩ := H
              replace H : ((instarlaw08_To.f kj5 l0).bind fun t105 => ((instarref08_Text.f kj5 t105).bind fun t108 => (some (t104.toList == t108.toList)))) = some r := H
              have A13 := Aside0.mk A130
              clear A130
              replace H := Option.bind_eq_some_iff.mp H
              obtain ⟨t105, A140, H⟩ := H
              replace H : ((instarref08_Text.f kj5 t105).bind fun t108 => (some (t104.toList == t108.toList))) = some r := H
              have A14 := Aside0.mk A140
              clear A140
              replace H := Option.bind_eq_some_iff.mp H
              obtain ⟨t108, A150, H⟩ := H
              replace H : (some (t104.toList == t108.toList)) = some r := H
              have A15 := Aside0.mk A150
              clear A150
              obtain rfl := Option.some.inj H
              go_wp2_with (first | ((with_reducible refine gate_callee (f := 7) rfl ?_); refine goesL_ (some 31) rfl rfl Tryd.func7 (by kernel_rfl) rfl #[] rfl (by (try simp only [List.map_toArray, List.map_cons, List.map_nil]); first | done | rfl | (simp only [List.length_drop, List.length_take]; rfl)) ?_; (with_reducible refine (instarlaw08_alive.calls kj5  true _ ?side1 A11.out).mono ?_); (case side1 => first | exact hG | exact Go.Proofs.YtngeelpfbajppaaDoor.Bs.Gl.below hG (by repeat (first | (with_reducible first | exact HB.out | apply below_alloc | apply pw_below_drewN | apply below_drew1) | exact HB.out)) | (repeat (first | exact hG | refine Go.Proofs.YtngeelpfbajppaaDoor.Bs.Gl.drewN ?_ _))); rintro e w16 ⟨rfl, hb⟩; refine ⟨_, rfl, ?_⟩; have n0_ := Aside0.mk (below_step (by repeat (first | (with_reducible first | exact HB.out | apply below_alloc | apply pw_below_drewN | apply below_drew1) | exact HB.out)) hb); clear HB; have HB := n0_; clear n0_; (try clear hb); (try clear hb2); (try clear hk); (try clear hi)) | (go_at_call 14; (with_reducible refine (lex_Text.calls kj5 _ _ l0 t104 _ ?side1 ?side2 ?side3 A13.out).mono ?_); (case side1 => repeat (first | exact (Kd.C_below HR0.out HB.out) | (with_reducible refine Kd.C_alloc ?_ _) | (with_reducible refine Kd.C_drewN ?_ _) | (with_reducible refine Kd.C_drew ?_))); (case side2 => exact HC0.out); (case side3 => first | exact hG | exact Go.Proofs.YtngeelpfbajppaaDoor.Bs.Gl.below hG (by repeat (first | (with_reducible first | exact HB.out | apply below_alloc | apply pw_below_drewN | apply below_drew1) | exact HB.out)) | (repeat (first | exact hG | refine Go.Proofs.YtngeelpfbajppaaDoor.Bs.Gl.drewN ?_ _))); rintro e w17 ⟨rfl, hb⟩; have n0_ := Aside0.mk (below_step (by repeat (first | (with_reducible first | exact HB.out | apply below_alloc | apply pw_below_drewN | apply below_drew1) | exact HB.out)) hb); clear HB; have HB := n0_; clear n0_; (try clear hb); (try clear hb2); (try clear hk); (try clear hi)) | (go_at_call 11; (with_reducible refine (instarlaw08_To.calls kj5 _ _ l0 t105 _ ?side1 ?side2 A14.out).mono ?_); (case side1 => repeat (first | exact (Kd.C_below HR0.out HB.out) | (with_reducible refine Kd.C_alloc ?_ _) | (with_reducible refine Kd.C_drewN ?_ _) | (with_reducible refine Kd.C_drew ?_))); (case side2 => exact HC0.out); rintro e w18 ⟨v106, rfl, ho0, hb⟩; have n0_ := Aside0.mk (Kd.R_lower ho0 (below_size (by repeat (first | (with_reducible first | exact HB.out | apply below_alloc | apply pw_below_drewN | apply below_drew1) | exact HB.out)))); have n1_ := Aside0.mk (below_step (by repeat (first | (with_reducible first | exact HB.out | apply below_alloc | apply pw_below_drewN | apply below_drew1) | exact HB.out)) hb); clear HB; have HO107 := n0_; have HB := n1_; clear n0_ n1_; (try clear hb); (try clear hb2); (try clear hk); (try clear hi); (try clear ho0); obtain ⟨Ao19, co19, eo19⟩ := Kd.R_slice HO107.out; subst eo19) | (go_at_call 15; (with_reducible refine (instarref08_Text.calls kj5 _ _ t105 t108 _ ?side1 ?side2 A15.out).mono ?_); (case side1 => repeat (first | exact (Kd.R_reads' HO107.out).2.2 | (with_reducible refine Kd.C_alloc ?_ _) | (with_reducible refine Kd.C_drewN ?_ _) | (with_reducible refine Kd.C_drew ?_))); (case side2 => exact (Kd.R_reads' HO107.out).2.1); rintro e w20 ⟨rfl, hb⟩; have n0_ := Aside0.mk (Kd.R_below (by (with_reducible repeat (first | apply Kd.R_alloc | apply Kd.R_drewN | apply Kd.R_drew)); exact HO107.out) hb); have n1_ := Aside0.mk (below_step (by repeat (first | (with_reducible first | exact HB.out | apply below_alloc | apply pw_below_drewN | apply below_drew1) | exact HB.out)) hb); clear HO107; clear HB; have HO107 := n0_; have HB := n1_; clear n0_ n1_; (try clear hb); (try clear hb2); (try clear hk); (try clear hi)))
              go_ret
              exact ⟨by first | rfl | (simp [errW_none, errW_some] <;> rfl) | (simp [*, errW_none, errW_some] <;> rfl), by repeat (first | (with_reducible first | exact HB.out | apply below_alloc | apply pw_below_drewN | apply below_drew1) | exact HB.out)⟩
            · replace c12 := Bool.eq_false_iff.mpr c12
              subst c12
              have H1 : (some false) = some r := by rw [if_neg (show ¬ (false = true) by decide)] at H; exact H
              clear H
              have H := H1
              clear H1
              exact absurd ((Option.some.inj H).trans hr_.out) (by decide)
end Go.Proofs.YtngeelpfbajppaaDoor.PB
end
section
namespace Go.Proofs.YtngeelpfbajppaaDoor.Op
open Go Go.Proofs.YtngeelpfbajppaaDoorW.PrintWords Go.ChangeShapes Go.WideShapes
set_option linter.unusedVariables false
set_option linter.unusedSimpArgs false
structure Opens (P : Program) {α : Type} (d : Kd α) (t : TypeId) (bd : α → Prop) : Prop where
  cells : P.cellsOf t = d.sz
  opens : ∀ {H : Type} {enc : TypeId × Value → H} {w : World} {fuel : Nat} {cs : List Value} {x : DataW H × List MemPlace},
    DataW.trod enc P w 0 (fun _ => true) true fuel t cs = some x → (∀ n ∈ x.1.weights P t, n ≤ reachBytes) → ∃ y, d.K w y cs ∧ bd y
def inKind (k : IntKind) (n : Int) : Prop := (Lit.int k n).wf = true
def reach (s : ByteArray) : Prop := s.size ≤ 140737488351232
variable {P : Program}
theorem Opens.int {t : TypeId} (k : IntKind) (ht : P.underlying t = some (.int k)) (hc : P.cellsOf t = 1) : Opens P (Kd.int k) t (inKind k) :=
  ⟨hc, fun h _ => by
    obtain ⟨n, rfl, _, hw⟩ := DataW.trod_int ht h
    exact ⟨n, rfl, hw⟩⟩
theorem Opens.bool {t : TypeId} (ht : P.underlying t = some .bool) (hc : P.cellsOf t = 1) : Opens P Kd.bool t (fun _ => True) :=
  ⟨hc, fun h _ => by
    obtain ⟨n, rfl, _⟩ := DataW.trod_bool ht h
    exact ⟨n, rfl, trivial⟩⟩
theorem Opens.string {t : TypeId} (ht : P.underlying t = some .string) (hc : P.cellsOf t = 1) : Opens P Kd.string t reach :=
  ⟨hc, fun h hw => by
    obtain ⟨s, rfl, rfl, hs⟩ := DataW.trod_string ht h
    refine ⟨s, rfl, ?_⟩
    have := hw s.data.toList.length (by simp [DataW.weights])
    rw [Array.length_toList] at this
    exact this⟩
theorem weights_all {H : Type} {e : TypeId} {d : DataW H} {l : List (DataW H)} (h : d ∈ l) {n : Nat} (hn : n ∈ d.weights P e) : n ∈ DataW.weightsAll P e l := by
  induction l with
  | nil => cases h
  | cons a l ih =>
    simp only [DataW.weightsAll, List.mem_append]
    rcases List.mem_cons.1 h with rfl | h
    · exact .inl hn
    · exact .inr (ih h)
theorem cells?_get {w : World} {a : Addr} {n : Nat} {c : List Value} (h : w.cells? 0 a n = some c) : c.length = n ∧ ∀ i u, c[i]? = some u → w.cell? (a.add i) = some u := by
  unfold World.cells? at h
  rw [if_pos (Nat.zero_le _)] at h
  have hl : c.length = n := by simpa using mapM_some_length h
  refine ⟨hl, fun i u hu => ?_⟩
  have hi : i < n := by have := (List.getElem?_eq_some_iff.1 hu).1; omega
  have := mapM_some_get h i i (by simp [hi])
  rw [this, hu]
def All {α : Type} (B : Nat) (bd : α → Prop) (xs : List α) : Prop := xs.length * B ≤ 140737488351232 ∧ ∀ y ∈ xs, bd y
theorem Opens.slice {α : Type} {d : Kd α} {t e : TypeId} {bd : α → Prop} (z : α) (ht : P.underlying t = some (.slice e)) (hc : P.cellsOf t = 1) {B : Nat} (hB : P.bytesOf e = B) (h : Opens P d e bd) : Opens P (Kd.slice e d) t (All B bd) :=
  ⟨hc, fun {H enc w fuel cs x} hx hw => by
    rcases DataW.trod_slice ht hx with ⟨rfl, rfl⟩ | ⟨a, len, cap, elems, rest, n, _, rfl, rfl, _, hl, hm, hel, hget, hsp, _⟩
    · exact ⟨[], ⟨none, 0, rfl, Nat.le_refl _, rfl, by simp, fun h => absurd h (by simp)⟩, by simp [All], fun _ h => by cases h⟩
    · have hone : ∀ i, i < len → ∃ y, (∃ c, w.cells? 0 (a.add (i * d.sz)) d.sz = some c ∧ d.K w y c) ∧ bd y := by
        intro i hi
        have h1 := hget i hi
        rw [h.cells] at h1
        have hie : i < elems.length := by omega
        rw [List.getElem?_eq_getElem hie] at h1
        obtain ⟨c, hcc, hcx⟩ := Option.bind_eq_some_iff.1 h1
        obtain ⟨y, hy, hb⟩ := h.opens hcx (fun m hm => hw m (by
          simp only [DataW.weights, ht, List.mem_cons, List.mem_append]
          exact .inr (.inl (weights_all (List.mem_map_of_mem (List.getElem_mem hie)) hm))))
        exact ⟨y, ⟨c, hcc, hy⟩, hb⟩
      haveI : Inhabited α := ⟨z⟩
      obtain ⟨f, hf⟩ := Go.Deep.choose_lt hone
      have hlen : ((List.range len).map f).length = len := by simp
      have hM : maxLen = 9223372036854775807 := rfl
      refine ⟨(List.range len).map f, ⟨some a, cap, by rw [hlen], by rw [hlen]; exact hl, rfl, by rw [hlen]; omega, fun _ => ⟨a, rfl, fun j p hj => ?_⟩⟩, ?_, fun y hy => ?_⟩
      · have hjl : j < len := by have := (List.getElem?_eq_some_iff.1 hj).1; omega
        have hp : p = f j := by
          rw [List.getElem?_map, List.getElem?_range hjl] at hj
          exact (Option.some.inj hj).symm
        subst hp
        obtain ⟨⟨c, hcc, hy⟩, _⟩ := hf j hjl
        obtain ⟨h1, h2⟩ := cells?_get hcc
        refine ⟨c, h1, hy, fun i u hu => ?_⟩
        have := h2 i u hu
        rw [Go.Deep.add_add] at this
        exact this
      · have := hw ((elems.length + rest.length) * P.bytesOf e) (by simp [DataW.weights, ht])
        rw [hB] at this
        rw [hlen]
        have h3 : len * B ≤ (elems.length + rest.length) * B := Nat.mul_le_mul_right _ (by omega)
        exact Nat.le_trans h3 this
      · obtain ⟨i, hi, rfl⟩ := List.mem_map.1 hy
        exact (hf i (List.mem_range.1 hi)).2⟩
def OpensFs (P : Program) {α : Type} (d : Kd α) (o : Nat) (fs : List (TypeId × Nat)) (bd : α → Prop) : Prop :=
  ∀ {H : Type} {enc : TypeId × Value → H} {w : World} {n : Nat} {cs : List Value} {ys : List (DataW H × List MemPlace)}, cs.length = o + d.sz → ys.length = fs.length →
    (∀ (i : Nat) (f : TypeId × Nat), fs[i]? = some f → DataW.trod enc P w 0 (fun _ => true) true n f.1 ((cs.drop f.2).take (P.cellsOf f.1)) = ys[i]?) →
    (∀ n ∈ DataW.weightsEach P (fs.map (·.1)) (ys.map (·.1)), n ≤ reachBytes) → ∃ y, d.K w y (cs.drop o) ∧ bd y
theorem OpensFs.one {α : Type} {d : Kd α} {t : TypeId} {o : Nat} {bd : α → Prop} (h : Opens P d t bd) : OpensFs P d o [(t, o)] bd := by
  intro H enc w n cs ys hl hy hg hw
  obtain ⟨y, rfl⟩ : ∃ y, ys = [y] := by
    match ys, hy with
    | [y], _ => exact ⟨y, rfl⟩
  have h1 := hg 0 (t, o) rfl
  simp only [List.getElem?_cons_zero] at h1
  rw [h.cells, List.take_of_length_le (by rw [List.length_drop]; omega)] at h1
  exact h.opens h1 (fun m hm => hw m (by simpa [DataW.weightsEach] using hm))
theorem OpensFs.cons {α β : Type} {a : Kd α} {b : Kd β} {t : TypeId} {o : Nat} {fs : List (TypeId × Nat)} {ba : α → Prop} {bb : β → Prop} (h : Opens P a t ba) (hr : OpensFs P b (o + a.sz) fs bb) :
    OpensFs P (Kd.pair a b) o ((t, o) :: fs) (fun x => ba x.1 ∧ bb x.2) := by
  intro H enc w n cs ys hl hy hg hw
  obtain ⟨y, ys, rfl⟩ : ∃ y r, ys = y :: r := by
    match ys, hy with
    | y :: r, _ => exact ⟨y, r, rfl⟩
  have hl' : cs.length = o + (a.sz + b.sz) := hl
  have h1 := hg 0 (t, o) rfl
  simp only [List.getElem?_cons_zero] at h1
  rw [h.cells] at h1
  obtain ⟨x, hx, hbx⟩ := h.opens h1 (fun m hm => hw m (by simp only [List.map_cons, DataW.weightsEach, List.mem_append]; exact .inl hm))
  obtain ⟨u, hu, hbu⟩ := hr (cs := cs) (ys := ys) (by omega) (by simpa using hy) (fun i f hf => by have := hg (i + 1) f hf; simpa using this)
    (fun m hm => hw m (by simp only [List.map_cons, DataW.weightsEach, List.mem_append]; exact .inr hm))
  refine ⟨(x, u), ⟨_, _, ?_, hx, hu⟩, hbx, hbu⟩
  rw [← List.drop_drop, List.take_append_drop]
theorem Opens.struct {α β : Type} {d : Kd α} {t : TypeId} {fs : Array Field} {l : List (TypeId × Nat)} {bd : α → Prop} {f : β → α} (g : α → β) (hfg : ∀ x, f (g x) = x) (ht : P.underlying t = some (.struct fs)) (hc : P.cellsOf t = d.sz)
    (hl : fs.toList.map (fun q => (q.type, q.offset)) = l) (h : OpensFs P d 0 l bd) : Opens P (Kd.iso d f) t (fun y => bd (f y)) :=
  ⟨hc, fun {H enc w fuel cs x} hx hw => by
    obtain ⟨xs, n, _, rfl, hlen, hxs, hget⟩ := DataW.trod_struct ht hx
    subst hl
    obtain ⟨y, hy, hb⟩ := h (enc := enc) (w := w) (n := n) (cs := cs) (ys := xs) (by rw [hlen, hc]; omega) (by simpa using hxs)
      (fun i q hq => by
        rw [List.getElem?_map] at hq
        obtain ⟨q', hq', rfl⟩ := Option.map_eq_some_iff.1 hq
        exact hget i q' (by simpa using hq'))
      (fun m hm => hw m (by
        simp only [DataW.weights, ht]
        rw [List.map_map] at hm
        exact hm))
    rw [List.drop_zero] at hy
    exact ⟨g y, by show d.K w (f (g y)) cs; rw [hfg]; exact hy, by rw [hfg]; exact hb⟩⟩
theorem hw_of {H : Type} {ts : List TypeId} {ds : List (DataW H)} (h : (DataW.weightsEach P ts ds).all (· ≤ reachBytes) = true) {j : Nat} {t : TypeId} {d : DataW H} (ht : ts[j]? = some t) (hd : ds[j]? = some d) : ∀ n ∈ d.weights P t, n ≤ reachBytes := fun n hn => by
  simpa using List.all_eq_true.1 h n (DataW.weights_mem_each ht hd n hn)
theorem arg_one {α : Type} {d : Kd α} {t : TypeId} {bd : α → Prop} (h : Opens P d t bd) {H : Type} {enc : TypeId × Value → H} {w : World} {v : Value} {x : DataW H} {p : List MemPlace} (hv : v.cells.toList = [v]) (hr : DataW.Trod enc P w 0 (fun _ => true) true t v x p)
    (hw : ∀ n ∈ x.weights P t, n ≤ reachBytes) : ∃ y, d.K w y [v] ∧ bd y := by
  obtain ⟨fuel, hf⟩ := hr
  rw [hv] at hf
  exact h.opens hf hw
end Go.Proofs.YtngeelpfbajppaaDoor.Op
end
section
namespace Go.Proofs.YtngeelpfbajppaaDoor.QLexTexts
open Go Go.RowKit Go.Proofs.YtngeelpfbajppaaDoorW.PrintWords Go.Proofs.YtngeelpfbajppaaDoor.PB Go.Proofs.YtngeelpfbajppaaDoor.Op
set_option linter.unusedVariables false
set_option linter.unusedSimpArgs false
def bd35 (y : S35) : Prop := (inKind .i64) y.f0 ∧ reach y.f1 ∧ (inKind .i64) y.f2
theorem op35 : Opens Tryd.prog k35 35 bd35 :=
  Opens.struct (l := [(33, 0), (9, 1), (3, 2)]) (fun p => (⟨p.1, p.2.1, p.2.2⟩ : S35)) (fun _ => rfl) Tryd.underlying35 (by kernel_rfl) (by rfl) (OpensFs.cons (Opens.int .i64 Tryd.underlying33 (by kernel_rfl)) (OpensFs.cons (Opens.string Tryd.underlying9 (by kernel_rfl)) (OpensFs.one (Opens.int .i64 Tryd.underlying3 (by kernel_rfl)))))
def Pure : Prop := ∀ (l0 : List (S35)), (All 32 bd35) l0 → ∃ k, instarlaw08_LexTexts.f k l0 = some true
end Go.Proofs.YtngeelpfbajppaaDoor.QLexTexts
end
section
namespace Go.Proofs.YtngeelpfbajppaaDoor.Rk
open Go Go.RowKit Go.Proofs.YtngeelpfbajppaaDoorW.PrintWords
set_option linter.unusedVariables false
set_option linter.unusedSimpArgs false
section
variable {α β : Type}
def Evr (g : Nat → Option α) (v : α) : Prop := ∃ n, ∀ k, n ≤ k → g k = some v
theorem Evr.const {c : Option α} {v : α} (h : c = some v) : Evr (fun _ => c) v := ⟨0, fun _ _ => h⟩
theorem Evr.succ {g : Nat → Option α} {v : α} (h : Evr (fun k => g (k + 1)) v) : Evr g v := by
  obtain ⟨n, h⟩ := h
  exact ⟨n + 1, fun k hk => by
    obtain ⟨j, rfl⟩ : ∃ j, k = j + 1 := ⟨k - 1, by omega⟩
    exact h j (by omega)⟩
theorem Evr.bind {g : Nat → Option α} {f : Nat → α → Option β} {v : α} {u : β} (h : Evr g v) (h' : Evr (fun k => f k v) u) : Evr (fun k => (g k).bind (f k)) u := by
  obtain ⟨n, h⟩ := h
  obtain ⟨m, h'⟩ := h'
  exact ⟨max n m, fun k hk => by
    show (g k).bind (f k) = _
    rw [h k (by omega)]
    exact h' k (by omega)⟩
theorem Evr.bindc {c : Option α} {f : Nat → α → Option β} {v : α} {u : β} (h : c = some v) (h' : Evr (fun k => f k v) u) : Evr (fun k => c.bind (f k)) u := Evr.bind (Evr.const h) h'
theorem Evr.pos {c : Prop} [Decidable c] {a b : Nat → Option α} {v : α} (hc : c) (h : Evr a v) : Evr (fun k => if c then a k else b k) v := by
  obtain ⟨n, h⟩ := h
  exact ⟨n, fun k hk => by
    show (if c then a k else b k) = _
    rw [if_pos hc]
    exact h k hk⟩
theorem Evr.neg {c : Prop} [Decidable c] {a b : Nat → Option α} {v : α} (hc : ¬ c) (h : Evr b v) : Evr (fun k => if c then a k else b k) v := by
  obtain ⟨n, h⟩ := h
  exact ⟨n, fun k hk => by
    show (if c then a k else b k) = _
    rw [if_neg hc]
    exact h k hk⟩
theorem Evr.mono {g : Nat → Option α} {v : α} {n : Nat} (h : g n = some v) (hm : ∀ k, LeO (g k) (g (k + 1))) : Evr g v := by
  refine ⟨n, fun k hk => ?_⟩
  obtain ⟨d, rfl⟩ : ∃ d, k = n + d := ⟨k - n, by omega⟩
  clear hk
  induction d with
  | zero => exact h
  | succ d ih => exact hm _ _ ih
theorem Evr.ex {g : Nat → Option α} {v : α} (h : Evr g v) : ∃ k, g k = some v := by
  obtain ⟨n, h⟩ := h
  exact ⟨n, h n (Nat.le_refl _)⟩
end
theorem wrap_eq {x : Int} (h0 : -9223372036854775808 ≤ x) (h1 : x ≤ 9223372036854775807) : wrap64 x = x := by unfold wrap64; omega
theorem wrap_nat {n : Nat} (h : n < 9223372036854775807) : wrap64 ((n : Int) + 1) = ((n + 1 : Nat) : Int) := by unfold wrap64; omega
theorem dl (s : ByteArray) : s.data.toList.length = s.size := Array.length_toList
theorem bt_get {s : ByteArray} {i : Nat} (h : i < s.data.toList.length) : bt s (i : Int) = ((s.data.toList[i]).toNat : Int) := by
  have h' : i < s.size := by rw [← dl]; exact h
  simp only [bt, Int.toNat_natCast, dif_pos h']
  rfl
theorem ext_one {s : ByteArray} {i : Nat} (h : i < s.data.toList.length) : (s.extract i (i + 1)).data.toList = [s.data.toList[i]] := by
  rw [Lib.extract_data, show i + 1 - i = 1 by omega, List.drop_eq_getElem_cons h]
  rfl
end Go.Proofs.YtngeelpfbajppaaDoor.Rk
end
section
namespace Go.Proofs.YtngeelpfbajppaaDoor.Ko
open Go Go.RowKit
set_option linter.unusedVariables false
set_option linter.unusedSimpArgs false
def val : List UInt8 → Nat
  | [] => 0
  | a :: p => a.toNat * 256 ^ p.length + val p
def repl1 (c : UInt8) (new : List UInt8) : List UInt8 → List UInt8
  | [] => []
  | b :: s => if b = c then new ++ repl1 c new s else b :: repl1 c new s
theorem replK_eq (c : UInt8) (new : List UInt8) (k : Nat) (s : List UInt8) : Lib.replaceK [c] new (k + 1) (c :: s) = new ++ Lib.replaceK [c] new k s := by
  have h : Lib.index (c :: s) [c] = ((0 : Nat) : Int) := by simp [Lib.index]
  rw [Lib.replaceK_hit _ _ _ _ 0 h]
  simp
theorem replK_ne (b c : UInt8) (h : b ≠ c) (new : List UInt8) (k : Nat) (s : List UInt8) : Lib.replaceK [c] new k (b :: s) = b :: Lib.replaceK [c] new k s := by
  cases k with
  | zero => rfl
  | succ k =>
    have hp : ([c].isPrefixOf (b :: s)) = false := by simp [List.isPrefixOf, Ne.symm h]
    by_cases hm : Lib.index s [c] = -1
    · have h1 : Lib.index (b :: s) [c] = -1 := by simp [Lib.index, hm, Ne.symm h]
      simp [Lib.replaceK, h1, hm]
    · have hge := Lib.index_ge s [c]
      obtain ⟨i, hi⟩ : ∃ i : Nat, Lib.index s [c] = i := ⟨(Lib.index s [c]).toNat, by omega⟩
      have h1 : Lib.index (b :: s) [c] = ((i + 1 : Nat) : Int) := by
        have hm' : ¬ ((i : Int) = -1) := by omega
        simp [Lib.index, hi, Ne.symm h]
        try omega
      rw [Lib.replaceK_hit _ _ _ _ _ h1, Lib.replaceK_hit _ _ _ _ _ hi]
      simp [Nat.add_right_comm]
theorem replK_one (c : UInt8) (new : List UInt8) : ∀ s : List UInt8, Lib.replaceK [c] new (Lib.count s [c]) s = repl1 c new s
  | [] => by
    cases h : Lib.count [] [c] with
    | zero => rfl
    | succ k => simp [Lib.replaceK, Lib.index, repl1]
  | b :: s => by
    have ih := replK_one c new s
    by_cases h : b = c
    · subst h
      rw [Lib.count_cons_eq, Nat.add_comm, replK_eq, ih]
      simp [repl1]
    · rw [Lib.count_cons_ne _ _ _ h, replK_ne _ _ h, ih]
      simp [repl1, h]
theorem replaceAll_one (c : UInt8) (new s : List UInt8) (hne : new ≠ [c]) : Lib.replaceAll s [c] new = repl1 c new s := by
  have h : ([c] == new) = false := by
    rw [beq_eq_false_iff_ne]
    exact fun e => hne e.symm
  simp only [Lib.replaceAll, Lib.replace, h, Bool.false_eq_true, if_false, Lib.replaceNum, show ((-1 : Int) < 0) = True by simp, true_or, if_true]
  exact replK_one c new s
end Go.Proofs.YtngeelpfbajppaaDoor.Ko
end
section
namespace Go.Proofs.YtngeelpfbajppaaDoor.Lx
open Go Go.RowKit Go.Proofs.YtngeelpfbajppaaDoorW.PrintWords Go.Proofs.YtngeelpfbajppaaDoor.PB Go.Proofs.YtngeelpfbajppaaDoor.Rk Go.Proofs.YtngeelpfbajppaaDoor.Ko
set_option linter.unusedVariables false
set_option linter.unusedSimpArgs false
theorem z39 : (⟨#[39]⟩ : ByteArray).size = 1 := rfl
theorem repl_hit (s : List UInt8) : repl1 39 [39, 39] (39 :: s) = 39 :: 39 :: repl1 39 [39, 39] s := rfl
theorem repl_miss {c : UInt8} (h : ¬ c = 39) (s : List UInt8) : repl1 39 [39, 39] (c :: s) = c :: repl1 39 [39, 39] s := by rw [repl1, if_neg h]
theorem repl39_len : ∀ s : List UInt8, (repl1 39 [39, 39] s).length ≤ 2 * s.length
  | [] => by simp [repl1]
  | c :: s => by
    have := repl39_len s
    unfold repl1
    split <;> simp only [List.length_cons, List.length_append, List.length_nil] <;> omega
theorem quote_l (K N : Int) (S : ByteArray) (hS : S.size ≤ 200) : ∀ n i (acc : ByteArray), n + i = S.size → acc.size ≤ 2 * i + 1 →
    ∃ X, Evr (fun k => instarref03_Show.l0 k acc (i : Int) K N S) X ∧ X.data.toList = acc.data.toList ++ (repl1 39 [39, 39] (S.data.toList.drop i) ++ [39])
  | 0, i, acc, hn, ha => by
    have hL := dl S
    refine ⟨acc ++ (⟨#[39]⟩ : ByteArray), Evr.succ ?_, ?_⟩
    · simp only [instarref03_Show.l0]
      exact Evr.neg (by omega) (Evr.pos (by omega) (Evr.const rfl))
    · rw [List.drop_eq_nil_of_le (by omega), ByteArray.data_append, Array.toList_append]
      rfl
  | n + 1, i, acc, hn, ha => by
    have hL := dl S
    have c : i < S.size := by omega
    have c' : i < S.data.toList.length := by omega
    have e1 : wrap64 ((i : Int) + 1) = ((i + 1 : Nat) : Int) := wrap_nat (by omega)
    have hx := ext_one c'
    have hz : (S.extract i (i + 1)).size = 1 := by rw [← dl, hx]; rfl
    have hn' : n + (i + 1) = S.size := by omega
    have t1 : (i : Int) < (S.size : Int) := by omega
    have t2 : 0 ≤ (i : Int) := by omega
    have t3 : (i : Int) ≤ ((i + 1 : Nat) : Int) := by omega
    have t4 : ((i + 1 : Nat) : Int) ≤ (S.size : Int) := by omega
    have t5 : acc.size + (i + 1 - i) ≤ 9223372036854775807 := by omega
    have t6 : acc.size + (i + 1 - i) + 1 ≤ 9223372036854775807 := by omega
    by_cases q : S.data.toList[i] = 39
    · have hs : ((acc ++ S.extract i (i + 1)) ++ (⟨#[39]⟩ : ByteArray)).size ≤ 2 * (i + 1) + 1 := by
        rw [ByteArray.size_append, ByteArray.size_append, hz, z39]; omega
      obtain ⟨X, h1, h2⟩ := quote_l K N S hS n (i + 1) ((acc ++ S.extract i (i + 1)) ++ (⟨#[39]⟩ : ByteArray)) hn' hs
      refine ⟨X, Evr.succ ?_, ?_⟩
      · simp only [instarref03_Show.l0, e1, bt_get c', q, Int.toNat_natCast]
        exact Evr.pos t1 (Evr.pos t2 (Evr.pos t3 (Evr.pos t4 (Evr.pos t5 (Evr.pos (by decide) (Evr.pos t6 h1))))))
      · rw [h2, List.drop_eq_getElem_cons c', ByteArray.data_append, ByteArray.data_append, Array.toList_append, Array.toList_append, hx, q, repl_hit]
        simp only [List.append_assoc, List.cons_append, List.nil_append]
    · have hs : (acc ++ S.extract i (i + 1)).size ≤ 2 * (i + 1) + 1 := by
        rw [ByteArray.size_append, hz]; omega
      obtain ⟨X, h1, h2⟩ := quote_l K N S hS n (i + 1) (acc ++ S.extract i (i + 1)) hn' hs
      have q' : ¬ ((S.data.toList[i]).toNat : Int) = 39 := fun h => q (UInt8.toNat_inj.1 (by show _ = 39; omega))
      refine ⟨X, Evr.succ ?_, ?_⟩
      · simp only [instarref03_Show.l0, e1, bt_get c', Int.toNat_natCast]
        exact Evr.pos t1 (Evr.pos t2 (Evr.pos t3 (Evr.pos t4 (Evr.pos t5 (Evr.neg q' h1)))))
      · rw [h2, List.drop_eq_getElem_cons c', ByteArray.data_append, Array.toList_append, hx, repl_miss q]
        simp only [List.append_assoc, List.cons_append, List.nil_append]
def show4 (t : ByteArray) : List UInt8 := if t.size ≤ 200 then 39 :: (repl1 39 [39, 39] t.data.toList ++ [39]) else [63]
theorem show4_len (t : ByteArray) : (show4 t).length ≤ 2 * t.size + 2 := by
  unfold show4
  split
  · have := repl39_len t.data.toList
    rw [dl] at this
    simp only [List.length_cons, List.length_append, List.length_nil]
    omega
  · simp
theorem repl39 {s : ByteArray} (h : s.size ≤ 200) : ∃ t, strings_ReplaceAll.f s ⟨#[39]⟩ ⟨#[39, 39]⟩ = some t ∧ t.data.toList = repl1 39 [39, 39] s.data.toList := by
  have hc : Lib.countB s ⟨#[39]⟩ ≤ 201 := by
    have h1 := Lib.count_le s.data.toList [39]
    have h2 : s.data.toList.length = s.size := Array.length_toList
    have h3 : Lib.countB s ⟨#[39]⟩ = Lib.count s.data.toList [39] := by first | rfl | simp [Lib.countB]
    omega
  refine ⟨_, by unfold strings_ReplaceAll.f; rw [if_pos (by omega), if_pos (by decide), if_pos (by rw [show (⟨#[39, 39]⟩ : ByteArray).size = 2 from rfl]; omega)], ?_⟩
  show Lib.replaceAll s.data.toList [39] [39, 39] = _
  rw [replaceAll_one 39 [39, 39] _ (by decide)]
theorem show_p (t : ByteArray) : ∃ X, value_Show.f 4 0 t = some X ∧ X.data.toList = show4 t := by
  unfold value_Show.f value_Right.f show4
  rw [if_pos rfl, if_pos rfl, Option.bind_some]
  by_cases h : t.size ≤ 200
  · have hd : decide ((t.size : Int) ≤ 200) = true := decide_eq_true (by omega)
    rw [hd, if_pos h, if_pos rfl, if_neg (by decide), if_neg (by decide), if_pos rfl]
    obtain ⟨x, e1, e2⟩ := repl39 h
    have hl := repl39_len t.data.toList
    rw [dl] at hl
    have ht : x.size ≤ 400 := by rw [← dl, e2]; omega
    rw [e1, Option.bind_some, if_pos (by omega), if_pos (by omega)]
    refine ⟨_, rfl, ?_⟩
    rw [ByteArray.data_append, ByteArray.data_append, Array.toList_append, Array.toList_append, e2]
    rfl
  · have hd : decide ((t.size : Int) ≤ 200) = false := decide_eq_false (by omega)
    rw [hd, if_neg h, if_neg (by decide)]
    exact ⟨_, rfl, rfl⟩
theorem show_r (t : ByteArray) : ∃ X, Evr (fun k => instarref03_Show.f k 4 0 t) X ∧ X.data.toList = show4 t := by
  have hr : Evr (fun k => instarref03_Right.f k 4 0 t) (decide ((t.size : Int) ≤ 200)) := by
    unfold instarref03_Right.f
    refine Evr.pos rfl (Evr.succ ?_)
    simp only [instarref03_Right.j0]
    exact Evr.neg (by simp) (Evr.neg (by decide) (Evr.neg (by decide) (Evr.neg (by decide) (Evr.neg (by decide) (Evr.pos (by simp) (Evr.pos (by simp) (Evr.const rfl)))))))
  unfold instarref03_Show.f show4
  by_cases h : t.size ≤ 200
  · have hd : decide ((t.size : Int) ≤ 200) = true := decide_eq_true (by omega)
    rw [hd] at hr
    rw [if_pos h]
    obtain ⟨X, e1, e2⟩ := quote_l 4 0 t h t.size 0 (⟨#[39]⟩ : ByteArray) rfl (Nat.le_of_eq z39)
    exact ⟨X, Evr.bind hr (Evr.pos rfl (Evr.neg (by decide) (Evr.neg (by decide) (Evr.pos rfl e1)))), by rw [e2, List.drop_zero]; rfl⟩
  · have hd : decide ((t.size : Int) ≤ 200) = false := decide_eq_false (by omega)
    rw [hd] at hr
    rw [if_neg h]
    exact ⟨_, Evr.bind hr (Evr.neg (by decide) (Evr.const rfl)), rfl⟩
end Go.Proofs.YtngeelpfbajppaaDoor.Lx
end
section
namespace Go.Proofs.YtngeelpfbajppaaDoor.Lt
open Go Go.RowKit Go.Proofs.YtngeelpfbajppaaDoorW.PrintWords Go.Proofs.YtngeelpfbajppaaDoor.PB Go.Proofs.YtngeelpfbajppaaDoor.Rk Go.Proofs.YtngeelpfbajppaaDoor.Lx
set_option linter.unusedVariables false
set_option linter.unusedSimpArgs false
def conv (y : S35) : S44 := ⟨y.f0, y.f1, y.f2⟩
theorem rd35 {l : List S35} {i : Nat} (h : i < l.length) : rd_T35 l (i : Int) = l[i] := by simp [rd_T35, h]
theorem rd44 {l : List S35} {i : Nat} (h : i < l.length) : rd_T44 (l.map conv) (i : Int) = conv l[i] := by simp [rd_T44, h]
theorem to_l (l : List S35) (hl : l.length ≤ 4000000) : ∀ n i, n + i = l.length → Evr (fun k => instarlaw08_To.l0 k l ((l.take i).map conv) (i : Int)) (l.map conv)
  | 0, i, hn => by
    refine Evr.succ ?_
    simp only [instarlaw08_To.l0]
    rw [List.take_of_length_le (by omega)]
    exact Evr.neg (by omega) (Evr.const rfl)
  | n + 1, i, hn => by
    have c : i < l.length := by omega
    have ih := to_l l hl n (i + 1) (by omega)
    have e1 : wrap64 ((i : Int) + 1) = ((i + 1 : Nat) : Int) := wrap_nat (by omega)
    refine Evr.succ ?_
    simp only [instarlaw08_To.l0, e1]
    rw [rd35 c]
    refine Evr.pos (by omega) (Evr.pos (by omega) (Evr.pos (by rw [List.length_map, List.length_take]; omega) ?_))
    rw [List.take_succ_eq_append_getElem c, List.map_append] at ih
    exact ih
theorem to_ev (l : List S35) (hl : l.length ≤ 4000000) : Evr (fun k => instarlaw08_To.f k l) (l.map conv) := by
  unfold instarlaw08_To.f
  exact to_l l hl l.length 0 rfl
def wt (y : S35) : List UInt8 := if y.f0 = 2 then show4 y.f1 else y.f1.data.toList
theorem wt_len (y : S35) : (wt y).length ≤ 2 * y.f1.size + 2 := by
  unfold wt
  split
  · exact show4_len _
  · rw [dl]; omega
def tailT (l : List S35) : List UInt8 := (l.map fun y => 32 :: wt y).flatten
def joinT : List S35 → List UInt8
  | [] => []
  | y :: l => wt y ++ tailT l
def sz (l : List S35) : Nat := (l.map fun y => y.f1.size).sum
theorem sz_cons (y : S35) (l : List S35) : sz (y :: l) = y.f1.size + sz l := by simp [sz]
theorem sz_app (a b : List S35) : sz (a ++ b) = sz a + sz b := by simp [sz]
theorem sz_take {l : List S35} {i : Nat} (h : i < l.length) : sz (l.take (i + 1)) = sz (l.take i) + l[i].f1.size := by
  rw [List.take_succ_eq_append_getElem h, sz_app]
  simp [sz]
theorem sz_take_le (l : List S35) (i : Nat) : sz (l.take i) ≤ sz l := by
  have := sz_app (l.take i) (l.drop i)
  rw [List.take_append_drop] at this
  omega
theorem tailT_len : ∀ l : List S35, (tailT l).length ≤ 2 * sz l + 3 * l.length
  | [] => by simp [tailT]
  | y :: l => by
    have h1 := wt_len y
    have h2 := tailT_len l
    simp only [tailT, List.map_cons, List.flatten_cons, List.length_append, List.length_cons, sz_cons] at h2 ⊢
    omega
theorem joinT_len (l : List S35) : (joinT l).length ≤ 2 * sz l + 3 * l.length := by
  cases l with
  | nil => simp [joinT]
  | cons y l =>
    have h1 := wt_len y
    have h2 := tailT_len l
    simp only [joinT, List.length_append, List.length_cons, sz_cons]
    omega
theorem join_T (l : List S35) (t : List ByteArray) (h : t.map (·.data.toList) = l.map wt) : Lib.join (t.map (·.data.toList)) [32] = joinT l := by
  rw [h]
  cases l with
  | nil => rfl
  | cons v l =>
    rw [List.map_cons, Lib.join_cons]
    simp [joinT, tailT, Lib.joinTail, List.map_map, Function.comp_def]
theorem word_p (y : S35) : ∃ X : ByteArray, X.data.toList = wt y ∧ (∀ {g : ByteArray → Nat → Option ByteArray} {v : ByteArray}, Evr (g X) v → Evr (fun k => if y.f0 = 2 then (value_Show.f 4 0 y.f1).bind fun t => g t k else g y.f1 k) v) := by
  unfold wt
  by_cases c : y.f0 = 2
  · obtain ⟨X, h1, h2⟩ := show_p y.f1
    exact ⟨X, by rw [if_pos c]; exact h2, fun hg => Evr.pos c (Evr.bindc h1 hg)⟩
  · exact ⟨y.f1, by rw [if_neg c], fun hg => Evr.neg c hg⟩
theorem text_l (l : List S35) (hl : l.length ≤ 2000000) (hz : sz l ≤ 100000000) : ∀ n i (acc : List ByteArray), n + i = l.length → acc.map (·.data.toList) = (l.take i).map wt →
    ∃ X, Evr (fun k => lex_Text.l0 k acc l (l.length : Int) (i : Int)) X ∧ X.data.toList = joinT l
  | 0, i, acc, hn, ha => by
    rw [List.take_of_length_le (by omega)] at ha
    have hj := join_T l acc ha
    have hal : acc.length = l.length := by
      have := congrArg List.length ha
      rwa [List.length_map, List.length_map] at this
    have hlen := joinT_len l
    have hJ : strings_Join.f acc (⟨#[32]⟩ : ByteArray) = some ⟨(joinT l).toArray⟩ := by
      unfold strings_Join.f
      rw [if_pos (by omega)]
      show (if (Lib.join (acc.map (·.data.toList)) [32]).length ≤ 140737488355328 then some (⟨(Lib.join (acc.map (·.data.toList)) [32]).toArray⟩ : ByteArray) else none) = _
      rw [hj, if_pos (by omega)]
    refine ⟨⟨(joinT l).toArray⟩, Evr.succ ?_, rfl⟩
    simp only [lex_Text.l0]
    exact Evr.neg (by omega) (Evr.bindc hJ (Evr.const rfl))
  | n + 1, i, acc, hn, ha => by
    have c : i < l.length := by omega
    obtain ⟨Y, e1, e2⟩ := word_p l[i]
    have hal : acc.length = i := by
      have := congrArg List.length ha
      rw [List.length_map, List.length_map, List.length_take] at this
      omega
    obtain ⟨X, h1, h2⟩ := text_l l hl hz n (i + 1) (acc ++ [Y]) (by omega) (by rw [List.map_append, ha, List.take_succ_eq_append_getElem c, List.map_append]; simp [e1])
    refine ⟨X, Evr.succ ?_, h2⟩
    simp only [lex_Text.l0]
    rw [rd35 c, wrap_nat (by omega)]
    refine Evr.pos (by omega) (Evr.pos (by omega) (Evr.pos (by omega) ?_))
    exact e2 (g := fun t k => if acc.length < 8796093022208 then lex_Text.l0 k (acc ++ [t]) l (l.length : Int) ((i + 1 : Nat) : Int) else none) (Evr.pos (by omega) h1)
theorem text_ev (l : List S35) (hl : l.length ≤ 2000000) (hz : sz l ≤ 100000000) : ∃ X, Evr (fun k => lex_Text.f k l) X ∧ X.data.toList = joinT l := by
  unfold lex_Text.f
  exact text_l l hl hz l.length 0 [] rfl rfl
theorem word_r (y : S35) : ∃ X : ByteArray, X.data.toList = wt y ∧ (∀ {g h : ByteArray → Nat → Option ByteArray} {v : ByteArray}, Evr (g X) v → Evr (h X) v → Evr (fun k => if y.f0 = 2 then (instarref03_Show.f k 4 0 y.f1).bind fun t => g t k else h y.f1 k) v) := by
  unfold wt
  by_cases c : y.f0 = 2
  · obtain ⟨X, h1, h2⟩ := show_r y.f1
    exact ⟨X, by rw [if_pos c]; exact h2, fun hg _ => Evr.pos c (Evr.bind h1 hg)⟩
  · exact ⟨y.f1, by rw [if_neg c], fun _ hh => Evr.neg c hh⟩
theorem z32 : (⟨#[32]⟩ : ByteArray).size = 1 := rfl
theorem rtext_l (l : List S35) (hl : l.length ≤ 2000000) (hz : sz l ≤ 100000000) : ∀ n i (acc : ByteArray), n + i = l.length → 1 ≤ i → acc.size ≤ 2 * sz (l.take i) + 3 * i →
    ∃ X, Evr (fun k => instarref08_Text.l0 k (l.map conv) acc (i : Int)) X ∧ X.data.toList = acc.data.toList ++ tailT (l.drop i)
  | 0, i, acc, hn, h0, ha => by
    refine ⟨acc, Evr.succ ?_, by rw [List.drop_eq_nil_of_le (by omega)]; simp [tailT]⟩
    simp only [instarref08_Text.l0, List.length_map]
    exact Evr.neg (by omega) (Evr.const rfl)
  | n + 1, i, acc, hn, h0, ha => by
    have c : i < l.length := by omega
    obtain ⟨Y, e1, e2⟩ := word_r l[i]
    have hy : Y.size ≤ 2 * l[i].f1.size + 2 := by rw [← dl, e1]; exact wt_len _
    have hs1 := sz_take c
    have hs2 := sz_take_le l (i + 1)
    obtain ⟨X, h1, h2⟩ := rtext_l l hl hz n (i + 1) ((acc ++ (⟨#[32]⟩ : ByteArray)) ++ Y) (by omega) (by omega) (by rw [ByteArray.size_append, ByteArray.size_append, z32]; omega)
    refine ⟨X, Evr.succ ?_, ?_⟩
    · simp only [instarref08_Text.l0, List.length_map]
      rw [rd44 c, wrap_nat (by omega)]
      refine Evr.pos (by omega) (Evr.pos (by omega) (Evr.pos (by omega) (Evr.pos (by omega) ?_)))
      exact e2 (g := fun t k => if acc.size + 1 + t.size ≤ 9223372036854775807 then instarref08_Text.l0 k (l.map conv) ((acc ++ (⟨#[32]⟩ : ByteArray)) ++ t) ((i + 1 : Nat) : Int) else none) (h := fun t k => if acc.size + 1 + t.size ≤ 9223372036854775807 then instarref08_Text.l0 k (l.map conv) ((acc ++ (⟨#[32]⟩ : ByteArray)) ++ t) ((i + 1 : Nat) : Int) else none) (Evr.pos (by omega) h1) (Evr.pos (by omega) h1)
    · rw [h2, List.drop_eq_getElem_cons c, ByteArray.data_append, ByteArray.data_append, Array.toList_append, Array.toList_append, e1]
      simp only [tailT, List.map_cons, List.flatten_cons, List.append_assoc, List.cons_append, List.nil_append]
theorem rtext_ev (l : List S35) (hl : l.length ≤ 2000000) (hz : sz l ≤ 100000000) : ∃ X, Evr (fun k => instarref08_Text.f k (l.map conv)) X ∧ X.data.toList = joinT l := by
  unfold instarref08_Text.f
  cases l with
  | nil =>
    refine ⟨⟨#[]⟩, Evr.succ ?_, rfl⟩
    simp only [instarref08_Text.l0]
    exact Evr.neg (by simp) (Evr.const rfl)
  | cons y m =>
    have c : 0 < (y :: m).length := by simp
    obtain ⟨Y, e1, e2⟩ := word_r y
    have hy : Y.size ≤ 2 * y.f1.size + 2 := by rw [← dl, e1]; exact wt_len _
    have z0 : (⟨#[]⟩ : ByteArray).size = 0 := rfl
    have hs := sz_cons y m
    obtain ⟨X, h1, h2⟩ := rtext_l (y :: m) hl hz ((y :: m).length - 1) 1 ((⟨#[]⟩ : ByteArray) ++ Y) (by simp only [List.length_cons]; omega) (Nat.le_refl _) (by
      rw [ByteArray.size_append, z0]
      simp only [List.take_succ_cons, List.take_zero]
      have : sz [y] = y.f1.size := by simp [sz]
      omega)
    refine ⟨X, Evr.succ ?_, ?_⟩
    · simp only [instarref08_Text.l0, List.length_map]
      have hr := rd44 (l := y :: m) (i := 0) c
      simp only [List.getElem_cons_zero] at hr
      rw [show (0 : Int) = ((0 : Nat) : Int) from rfl, hr, wrap_nat (by omega)]
      refine Evr.pos (by omega) (Evr.neg (by omega) (Evr.pos (by omega) ?_))
      exact e2 (g := fun t k => if (⟨#[]⟩ : ByteArray).size + t.size ≤ 9223372036854775807 then instarref08_Text.l0 k ((y :: m).map conv) ((⟨#[]⟩ : ByteArray) ++ t) ((0 + 1 : Nat) : Int) else none) (h := fun t k => if (⟨#[]⟩ : ByteArray).size + t.size ≤ 9223372036854775807 then instarref08_Text.l0 k ((y :: m).map conv) ((⟨#[]⟩ : ByteArray) ++ t) ((0 + 1 : Nat) : Int) else none) (Evr.pos (by omega) h1) (Evr.pos (by omega) h1)
    · rw [h2, ByteArray.data_append, Array.toList_append, e1]
      simp [joinT]
end Go.Proofs.YtngeelpfbajppaaDoor.Lt
end
section
namespace Go.Proofs.YtngeelpfbajppaaDoor.LLexTexts
open Go Go.RowKit Go.Proofs.YtngeelpfbajppaaDoorW.PrintWords Go.Proofs.YtngeelpfbajppaaDoor.PB Go.Proofs.YtngeelpfbajppaaDoor.Op Go.Proofs.YtngeelpfbajppaaDoor.Rk Go.Proofs.YtngeelpfbajppaaDoor.Lx Go.Proofs.YtngeelpfbajppaaDoor.Lt
set_option linter.unusedVariables false
set_option linter.unusedSimpArgs false
theorem alive_ev : Evr (fun k => instarlaw08_alive.f k) true := Evr.mono instarlaw08_alive.at_ instarlaw08_alive.mono
theorem pure : QLexTexts.Pure := by
  intro l hb
  refine Evr.ex ?_
  have out : Evr (fun k => instarlaw08_LexTexts.j2 k l true) true := by
    refine Evr.succ ?_
    simp only [instarlaw08_LexTexts.j2]
    exact Evr.pos (by simp) (Evr.bind alive_ev (Evr.const rfl))
  have main : l.length ≤ 100 → sz l ≤ 600 → Evr (fun k => instarlaw08_LexTexts.j2 k l false) true := by
    intro h1 h2
    obtain ⟨X, x1, x2⟩ := text_ev l (by omega) (by omega)
    obtain ⟨Y, y1, y2⟩ := rtext_ev l (by omega) (by omega)
    refine Evr.succ ?_
    simp only [instarlaw08_LexTexts.j2]
    refine Evr.neg (by simp) (Evr.bind alive_ev (Evr.pos rfl (Evr.bind x1 (Evr.bind (to_ev l (by omega)) (Evr.bind y1 (Evr.const ?_))))))
    rw [ByteArray.toList_eq, ByteArray.toList_eq, x2, y2]
    simp
  have hsz : ∀ i, i ≤ l.length → sz (l.take i) ≤ i * 140737488351232 := by
    intro i
    induction i with
    | zero => intro _; simp [sz]
    | succ i ih =>
      intro h
      have h1 := ih (by omega)
      have h2 := sz_take (show i < l.length by omega)
      have h3 : l[i].f1.size ≤ 140737488351232 := (hb.2 l[i] (List.getElem_mem _)).2.1
      omega
  have last : ∀ i, i ≤ l.length → i ≤ 101 → (i = l.length ∨ 100 < i) → Evr (fun k => instarlaw08_LexTexts.j1 k l (sz (l.take i) : Int)) true := by
    intro i h1 h2 h3
    refine Evr.succ ?_
    simp only [instarlaw08_LexTexts.j1]
    by_cases c : (l.length : Int) > 100
    · exact Evr.pos c out
    · refine Evr.neg c ?_
      have e : i = l.length := by omega
      rw [e, List.take_length]
      by_cases d : (sz l : Int) > 600
      · rw [decide_eq_true d]; exact out
      · rw [decide_eq_false d]; exact main (by omega) (by omega)
  have go : ∀ n i, n + i = 101 → i ≤ l.length → Evr (fun k => instarlaw08_LexTexts.l0 k l (sz (l.take i) : Int) (i : Int)) true := by
    intro n
    induction n with
    | zero =>
      intro i h1 h2
      refine Evr.succ ?_
      simp only [instarlaw08_LexTexts.l0]
      by_cases c : (i : Int) < (l.length : Int)
      · exact Evr.pos c (Evr.neg (by omega) (last i h2 (by omega) (.inr (by omega))))
      · exact Evr.neg c (last i h2 (by omega) (.inr (by omega)))
    | succ n ih =>
      intro i h1 h2
      refine Evr.succ ?_
      simp only [instarlaw08_LexTexts.l0]
      by_cases c : i < l.length
      · have h3 := hsz i h2
        have h4 := sz_take c
        have h5 : l[i].f1.size ≤ 140737488351232 := (hb.2 l[i] (List.getElem_mem _)).2.1
        have hn := ih (i + 1) (by omega) c
        rw [rd35 c, wrap_nat (by omega), wrap_eq (by omega) (by omega)]
        refine Evr.pos (by omega) (Evr.pos (by omega) (Evr.pos (by omega) ?_))
        rw [show ((sz (l.take i) : Nat) : Int) + (l[i].f1.size : Int) = ((sz (l.take (i + 1)) : Nat) : Int) by omega]
        exact hn
      · exact Evr.neg (by omega) (last i h2 (by omega) (.inl (by omega)))
  unfold instarlaw08_LexTexts.f
  exact go 101 0 rfl (Nat.zero_le _)
end Go.Proofs.YtngeelpfbajppaaDoor.LLexTexts
end
section
namespace Go.Proofs.YtngeelpfbajppaaDoor.Gs
open Go Go.RowKit
set_option linter.unusedVariables false
theorem tab_reads {P : Program} {W : World} {name : String} {k : IntKind} {zs : List Int} {g : Nat} {t e : TypeId} {n : Nat}
    (hg : P.globalNamed name = some g) (hty : (P.globals[g]?).map (·.type) = some t) (ht : P.underlying t = some (.array n e)) (he : P.underlying e = some (.int k)) (hce : P.cellsOf e = 1) (hct : P.cellsOf t = n)
    (h : Lib.VarReads P W name (Lib.tabData k zs)) : Lib.TabIs P W name k zs := by
  obtain ⟨g', t', cs, fuel, p, hg', ht', hvar, hd⟩ := h
  obtain rfl := Option.some.inj (hg.symm.trans hg')
  obtain rfl := Option.some.inj (hty.symm.trans ht')
  unfold Lib.TabIs
  rw [hvar, ← Lib.cells_of_tab ht he hce hct hd]
theorem pow10_eq : (Rows.laid_internal_strconv_uint64pow10 : DataW Unit) = Lib.tabData .u64 Lib.pow10Tab := by kernel_rfl
theorem start {laid : List (String × DataW Unit)} (W : World) (hsh : W.ShapedOpen Tryd.prog) (hL : laidMet Tryd.prog laid W)
    (h1 : ("internal/strconv.uint64pow10", (Rows.laid_internal_strconv_uint64pow10 : DataW Unit)) ∈ laid)
    : Bs.Gl W :=
  { triv := trivial
    maxLen := Go.Proofs.cell_of_shapedOpen_int (zero := #[.int .i64 0]) (t := 3) hsh (of_decide_eq_true (by kernel_rfl)) (by kernel_rfl) rfl (by kernel_rfl) (by kernel_rfl) Tryd.underlying3
    pow10 := tab_reads (g := 3) (t := 117) (e := 103) (n := 20) (by kernel_rfl) (by kernel_rfl) Tryd.underlying117 Tryd.underlying103 (by kernel_rfl) (by kernel_rfl) (pow10_eq ▸ Lib.laidMet.reads hL h1)
  }
end Go.Proofs.YtngeelpfbajppaaDoor.Gs
end
section
namespace Go.Proofs.YtngeelpfbajppaaDoor.RowLexTexts
open Go Go.ChangeShapes Go.WideShapes Go.ChangeAt Go.RowKit Go.Proofs.YtngeelpfbajppaaDoor.Op Go.Proofs.YtngeelpfbajppaaDoor.QLexTexts Go.Proofs.YtngeelpfbajppaaDoor.PB
open Go.ChangeMaps (open_string shut_string)
set_option linter.unusedVariables false
set_option linter.unusedSimpArgs false
theorem own : ownKnob Tryd.prog.godebug = none := by kernel_rfl
theorem laidOut : laidOutB Tryd.prog = true := by kernel_rfl
def laid : List (String × DataW Unit) := [("math/bits.deBruijn32tab", Rows.laid_math_bits_deBruijn32tab), ("math/bits.deBruijn64tab", Rows.laid_math_bits_deBruijn64tab), ("internal/strconv.uint64pow10", Rows.laid_internal_strconv_uint64pow10), ("unicode/utf8.acceptRanges", Rows.laid_unicode_utf8_acceptRanges), ("unicode/utf8.first", Rows.laid_unicode_utf8_first)]
set_option maxRecDepth 100000 in
theorem lifted (os : Os) (started : os.Started) (H : Type) (enc : TypeId × Value → H) (F : Stop.Interp) :
    ReturnsInHanded {} Tryd.checked os 4 .any ((OpenSpec.ofChange Rows.lexTextsSpec).preRow enc Tryd.prog Tryd.f4 [] false laid) (((OpenSpec.ofChange Rows.lexTextsSpec).at F).post enc Tryd.prog Tryd.f4 false true false false) := by
  refine returnsInHanded_of_row (C := Tryd.checked) (s := (OpenSpec.ofChange Rows.lexTextsSpec)) own started (by kernel_rfl) Tryd.func4
    (ChangeSpec.witness_shaped (enc := enc) (C := Tryd.checked) (os := os) (s := Rows.lexTextsSpec) (fn := Tryd.f4) (conds := []) (apart := false) (X := fun w _ => laidMetH Tryd.prog laid w) false (World.laidAll Tryd.prog os laid) #[.slice none 0 0] 8 (World.laidAll_os _ _ _)
      (World.shaped_of_ZipB (by kernel_rfl) (by kernel_rfl)) (by kernel_rfl) (by kernel_rfl) (by kernel_rfl)
      (by rw [MakeChecks.laidMetH_plain _ _ _ (by kernel_rfl)]; exact laidMet_laidAll _ (by kernel_rfl) (by kernel_rfl))) ?_
  intro W base args ds gs before hval0 hW _ _ hsz0 hL hsh _
  have hsz : (DataW.weightsEach Tryd.prog (Tryd.f4.params.toList ++ Rows.lexTextsSpec.plain.varTypes Tryd.prog) (ds ++ gs)).all (· ≤ reachBytes) = true := hsz0
  have hval : ∀ (j : Nat) t v, Tryd.f4.params[j]? = some t → args[j]? = some v → Value.okWide Tryd.prog W .any base t v := hval0
  have hW' := hW
  obtain ⟨p, q, hA0, hV, rfl, hfz, hnd⟩ := hW
  have hA : DataW.TrodAll enc Tryd.prog W 0 (fun _ => true) true Tryd.f4.params.toList args.toList ds p := hA0
  rw [Tryd.params4] at hA hval hsz
  obtain ⟨v0, vs0, d0, ds0, p0, q0, hargs, rfl, rfl, h0, r0⟩ := trodAll_cons hA
  obtain ⟨rfl, rfl, rfl⟩ := trodAll_nil r0
  obtain rfl : args = #[v0] := by cases args; simp_all
  obtain ⟨rfl, rfl⟩ := trodVars_none hV
  rw [MakeChecks.laidMetH_plain _ _ _ (by kernel_rfl)] at hL
  have hG : Go.Proofs.YtngeelpfbajppaaDoor.Bs.Gl W := Go.Proofs.YtngeelpfbajppaaDoor.Gs.start W hsh hL (by simp [laid])
  have k0 := h0
  have lt0 : ∀ x ∈ p0, x.block < W.heap.size := by obtain ⟨m, hm⟩ := k0; exact DataW.trod_lt m _ _ _ hm
  have w0 := hw_of hsz (j := 0) (t := 23) rfl rfl
  obtain ⟨a0, n0, c0, rfl⟩ := okWide_slice Tryd.underlying23 (hval 0 23 v0 rfl rfl)
  obtain ⟨y0, ⟨A0, b0, e0, hc0, hr0⟩, B0⟩ := arg_one (Opens.slice z35 Tryd.underlying23 (by kernel_rfl) (by kernel_rfl) op35) rfl h0 w0
  simp only [List.cons.injEq, Value.slice.injEq, and_true] at e0
  obtain ⟨rfl, rfl, rfl⟩ := e0
  obtain ⟨k, hp⟩ := Go.Proofs.YtngeelpfbajppaaDoor.LLexTexts.pure y0 B0
  refine (instarlaw08_LexTexts.calls k a0 c0 y0 true W hr0 hc0 hG ⟨rfl⟩ hp).mono fun e W' ⟨he, bel⟩ => ?_
  subst he
  exact ⟨_, rfl, _, _, _, [], _, [], hW', trodAll_mk1 (shut_bool Tryd.underlying4 _), (trodAll_cons_mk (Below.trod laidOut (by kernel_rfl) (of_decide_eq_true (by kernel_rfl)) k0 bel lt0) trodAll_mk0), rfl, bel.frame _, fun h => by cases h⟩
theorem over : Rows.lexTextsRow.holds Tryd.pinned (OpenSpec.ofChange Rows.lexTextsSpec) :=
  OpenClaim.holds_of_cond 4 Tryd.f4 rfl rfl rfl rfl rfl rfl rfl ⟨rfl, rfl, rfl, rfl, rfl⟩ rfl rfl rfl rfl rfl (by kernel_rfl) Tryd.func4 (by kernel_rfl)
    (of_decide_eq_true (by kernel_rfl)) (by unfold Func.isWrapper; first | (rw [if_pos (by decide +kernel)]; kernel_rfl) | (rw [if_neg (by decide +kernel)]; exact ⟨rfl, rfl⟩))
    (fun os started H enc _ F => by rw [OpenClaim.pre_eq_preRow]; exact lifted os started H enc F)
theorem card : Rows.LexTextsCardSaid :=
  Claim7.holds_tied_plain_at .later [] [.data, .data, .data, .data, .pinned] true (true, "55c92eca6da9699fccc8f007f3c40d41333532b4ef65a41c0ec2b0b961e7ecaa") false over (fun _ h => by cases h) (by kernel_rfl) (fun _ h => by cases h) lexTexts_row_tie rfl ⟨rfl, rfl⟩ (by kernel_rfl) rfl
    (fun f fn hf hfn => by
      obtain rfl : f = 4 := Option.some.inj ((show Tryd.prog.funcNamed "instar/instarlaw08.LexTexts" = some 4 by kernel_rfl).symm.trans hf) |>.symm
      obtain rfl : fn = Tryd.f4 := (Option.some.inj (Tryd.func4.symm.trans hfn)).symm
      exact ⟨by kernel_rfl, fun j t ht => by
        rw [Tryd.params4] at ht
        have hm : t ∈ [23] := by simpa using Array.mem_of_getElem? ht
        have hall : ([23].all fun u => !Tryd.prog.wantsStandIn u) = true := by kernel_rfl
        exact (show Tryd.prog.wantsStandIn t = false by simpa using List.all_eq_true.1 hall t hm)⟩)
    (by kernel_rfl)
end Go.Proofs.YtngeelpfbajppaaDoor.RowLexTexts
namespace Go.Proofs.YtngeelpfbajppaaDoor
theorem lexTexts_holds : Rows.LexTextsCardSaid := RowLexTexts.card
#print axioms lexTexts_holds
end Go.Proofs.YtngeelpfbajppaaDoor
end
