/- For every input the law instar/instarlaw05.RowOrder returns true, and each argument reads afterwards as it read before; no condition but the row's own (what the listed variables hold, which the card ties to the program's text). -/
import Derived.Test.YtinjibbjlcfkaaaDoorRows
import Derived.Test.YtinjibbjlcfkaaaDoorCards
import Derived.Test.YtinjibbjlcfkaaaDoorTie
import Derived.Test.YtinjibbjlcfkaaaDoorQRowOrder
import Derived.Test.YtinjibbjlcfkaaaDoorLRowOrder
import Derived.Test.YtinjibbjlcfkaaaDoorGs
import Derived.Test.YtinjibbjlcfkaaaDoorWFoot
import Derived.WalkKit
import Derived.ProofKit
import Derived.OpenShut
import Derived.ShutString
import Derived.ChangeOld
import Derived.Below
import Derived.SizedLaws
import Derived.Deep.DeepHandedRow
import Derived.Deep.DeepWitnessRowRef
import Derived.Lay
import Derived.LaidOnce
import Derived.Lib.LaidTab
import Derived.SevenTiedAt
import Derived.Shelf.LaysM
import Derived.Lib.SmallJoins
namespace Go.Proofs.YtinjibbjlcfkaaaDoor.RowRowOrder
open Go Go.ChangeShapes Go.WideShapes Go.ChangeAt Go.RowKit Go.Proofs.YtinjibbjlcfkaaaDoor.Op Go.Proofs.YtinjibbjlcfkaaaDoor.QRowOrder Go.Proofs.YtinjibbjlcfkaaaDoor.PD
open Go.ChangeMaps (open_string shut_string)
set_option linter.unusedVariables false
set_option linter.unusedSimpArgs false

theorem own : ownKnob Tryd.prog.godebug = none := by kernel_rfl
theorem laidOut : laidOutB Tryd.prog = true := by kernel_rfl
def laid : List (String × DataW Unit) := [("math/bits.deBruijn32tab", Rows.laid_math_bits_deBruijn32tab), ("math/bits.deBruijn64tab", Rows.laid_math_bits_deBruijn64tab), ("internal/strconv.uint64pow10", Rows.laid_internal_strconv_uint64pow10), ("unicode/utf8.acceptRanges", Rows.laid_unicode_utf8_acceptRanges), ("unicode/utf8.first", Rows.laid_unicode_utf8_first)]
set_option maxRecDepth 100000 in
theorem lifted (os : Os) (started : os.Started) (H : Type) (enc : TypeId × Value → H) (F : Stop.Interp) :
    ReturnsInHanded {} Tryd.checked os 5 .any ((OpenSpec.ofChange Rows.rowOrderSpec).preRow enc Tryd.prog Tryd.f5 [] false laid) (((OpenSpec.ofChange Rows.rowOrderSpec).at F).post enc Tryd.prog Tryd.f5 false true false false) := by
  refine returnsInHanded_of_row (C := Tryd.checked) (s := (OpenSpec.ofChange Rows.rowOrderSpec)) own started (by kernel_rfl) Tryd.func5
    (ChangeSpec.witness_shaped (enc := enc) (C := Tryd.checked) (os := os) (s := Rows.rowOrderSpec) (fn := Tryd.f5) (conds := []) (apart := false) (X := fun w _ => laidMetH Tryd.prog laid w) false (World.laidAll Tryd.prog os laid) #[.slice none 0 0, .slice none 0 0] 8 (World.laidAll_os _ _ _)
      (World.shaped_of_ZipB (by kernel_rfl) (by kernel_rfl)) (by kernel_rfl) (by kernel_rfl) (by kernel_rfl)
      (by rw [MakeChecks.laidMetH_plain _ _ _ (by kernel_rfl)]; exact laidMet_laidAll _ (by kernel_rfl) (by kernel_rfl))) ?_
  intro W base args ds gs before hval0 hW _ _ hsz0 hL hsh _
  have hsz : (DataW.weightsEach Tryd.prog (Tryd.f5.params.toList ++ Rows.rowOrderSpec.plain.varTypes Tryd.prog) (ds ++ gs)).all (· ≤ reachBytes) = true := hsz0
  have hval : ∀ (j : Nat) t v, Tryd.f5.params[j]? = some t → args[j]? = some v → Value.okWide Tryd.prog W .any base t v := hval0
  have hW' := hW
  obtain ⟨p, q, hA0, hV, rfl, hfz, hnd⟩ := hW
  have hA : DataW.TrodAll enc Tryd.prog W 0 (fun _ => true) true Tryd.f5.params.toList args.toList ds p := hA0
  rw [Tryd.params5] at hA hval hsz
  obtain ⟨v0, vs0, d0, ds0, p0, q0, hargs, rfl, rfl, h0, r0⟩ := trodAll_cons hA
  obtain ⟨v1, vs1, d1, ds1, p1, q1, rfl, rfl, rfl, h1, r1⟩ := trodAll_cons r0
  obtain ⟨rfl, rfl, rfl⟩ := trodAll_nil r1
  obtain rfl : args = #[v0, v1] := by cases args; simp_all
  obtain ⟨rfl, rfl⟩ := trodVars_none hV
  rw [MakeChecks.laidMetH_plain _ _ _ (by kernel_rfl)] at hL
  have hG : Go.Proofs.YtinjibbjlcfkaaaDoor.Bs.Gl W := Go.Proofs.YtinjibbjlcfkaaaDoor.Gs.start W hsh hL (by simp [laid])
  have k0 := h0
  have lt0 : ∀ x ∈ p0, x.block < W.heap.size := by obtain ⟨m, hm⟩ := k0; exact DataW.trod_lt m _ _ _ hm
  have w0 := hw_of hsz (j := 0) (t := 27) rfl rfl
  obtain ⟨a0, n0, c0, rfl⟩ := okWide_slice Tryd.underlying27 (hval 0 27 v0 rfl rfl)
  obtain ⟨y0, ⟨A0, b0, e0, hc0, hr0⟩, B0⟩ := arg_one (Opens.slice z35 Tryd.underlying27 (by kernel_rfl) (by kernel_rfl) op35) rfl h0 w0
  simp only [List.cons.injEq, Value.slice.injEq, and_true] at e0
  obtain ⟨rfl, rfl, rfl⟩ := e0
  have k1 := h1
  have lt1 : ∀ x ∈ p1, x.block < W.heap.size := by obtain ⟨m, hm⟩ := k1; exact DataW.trod_lt m _ _ _ hm
  have w1 := hw_of hsz (j := 1) (t := 27) rfl rfl
  obtain ⟨a1, n1, c1, rfl⟩ := okWide_slice Tryd.underlying27 (hval 1 27 v1 rfl rfl)
  obtain ⟨y1, ⟨A1, b1, e1, hc1, hr1⟩, B1⟩ := arg_one (Opens.slice z35 Tryd.underlying27 (by kernel_rfl) (by kernel_rfl) op35) rfl h1 w1
  simp only [List.cons.injEq, Value.slice.injEq, and_true] at e1
  obtain ⟨rfl, rfl, rfl⟩ := e1
  obtain ⟨k, hp⟩ := Go.Proofs.YtinjibbjlcfkaaaDoor.LRowOrder.pure y0 y1 B0 B1
  refine (instarlaw05_RowOrder.calls k a0 c0 y0 a1 c1 y1 true W hr0 hc0 hr1 hc1 hG ⟨rfl⟩ hp).mono fun e W' ⟨he, bel⟩ => ?_
  subst he
  exact ⟨_, rfl, _, _, _, [], _, [], hW', trodAll_mk1 (shut_bool Tryd.underlying4 _), (trodAll_cons_mk (Below.trod laidOut (by kernel_rfl) (of_decide_eq_true (by kernel_rfl)) k0 bel lt0) (trodAll_cons_mk (Below.trod laidOut (by kernel_rfl) (of_decide_eq_true (by kernel_rfl)) k1 bel lt1) trodAll_mk0)), rfl, bel.frame _, fun h => by cases h⟩
theorem over : Rows.rowOrderRow.holds Tryd.pinned (OpenSpec.ofChange Rows.rowOrderSpec) :=
  OpenClaim.holds_of_cond 5 Tryd.f5 rfl rfl rfl rfl rfl rfl rfl ⟨rfl, rfl, rfl, rfl, rfl⟩ rfl rfl rfl rfl rfl (by kernel_rfl) Tryd.func5 (by kernel_rfl)
    (of_decide_eq_true (by kernel_rfl)) (by unfold Func.isWrapper; first | (rw [if_pos (by decide +kernel)]; kernel_rfl) | (rw [if_neg (by decide +kernel)]; exact ⟨rfl, rfl⟩))
    (fun os started H enc _ F => by rw [OpenClaim.pre_eq_preRow]; exact lifted os started H enc F)
theorem card : Rows.RowOrderCardSaid :=
  Claim7.holds_tied_plain_at .later [] [.data, .data, .data, .data, .pinned] true (true, "09910d64a10f5f97f6e1dc72fd2bc0cb66555bc8c357305459103e2d0aa51afa") false over (fun _ h => by cases h) (by kernel_rfl) (fun _ h => by cases h) rowOrder_row_tie rfl ⟨rfl, rfl⟩ (by kernel_rfl) rfl
    (fun f fn hf hfn => by
      obtain rfl : f = 5 := Option.some.inj ((show Tryd.prog.funcNamed "instar/instarlaw05.RowOrder" = some 5 by kernel_rfl).symm.trans hf) |>.symm
      obtain rfl : fn = Tryd.f5 := (Option.some.inj (Tryd.func5.symm.trans hfn)).symm
      exact ⟨by kernel_rfl, fun j t ht => by
        rw [Tryd.params5] at ht
        have hm : t ∈ [27, 27] := by simpa using Array.mem_of_getElem? ht
        have hall : ([27, 27].all fun u => !Tryd.prog.wantsStandIn u) = true := by kernel_rfl
        exact (show Tryd.prog.wantsStandIn t = false by simpa using List.all_eq_true.1 hall t hm)⟩)
    (by kernel_rfl)
end Go.Proofs.YtinjibbjlcfkaaaDoor.RowRowOrder
namespace Go.Proofs.YtinjibbjlcfkaaaDoor
/-- The claim, under a short name. -/
theorem rowOrder_holds : Rows.RowOrderCardSaid := RowRowOrder.card
#print axioms rowOrder_holds
end Go.Proofs.YtinjibbjlcfkaaaDoor
