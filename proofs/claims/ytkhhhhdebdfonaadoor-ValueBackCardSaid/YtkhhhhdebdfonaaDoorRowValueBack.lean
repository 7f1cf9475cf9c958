/- For every input the law instar/instarlaw03.ValueBack returns true, and each argument reads afterwards as it read before; no condition but the row's own (what the listed variables hold, which the card ties to the program's text). -/
import Derived.Test.YtkhhhhdebdfonaaDoorRows
import Derived.Test.YtkhhhhdebdfonaaDoorCards
import Derived.Test.YtkhhhhdebdfonaaDoorTie
import Derived.Test.YtkhhhhdebdfonaaDoorQValueBack
import Derived.Test.YtkhhhhdebdfonaaDoorLValueBack
import Derived.Test.YtkhhhhdebdfonaaDoorGs
import Derived.WalkKit
import Derived.ProofKit
import Derived.OpenShut
import Derived.ShutString
import Derived.ChangeOld
import Derived.Below
import Derived.SizedLaws
import Derived.Deep.DeepHandedRow
import Derived.Deep.DeepWitnessRowRef
import Derived.Lay
import Derived.LaidOnce
import Derived.Lib.LaidTab
import Derived.SevenTiedAt
import Derived.Shelf.LaysM
import Derived.Lib.SmallJoins
namespace Go.Proofs.YtkhhhhdebdfonaaDoor.RowValueBack
open Go Go.ChangeShapes Go.WideShapes Go.ChangeAt Go.RowKit Go.Proofs.YtkhhhhdebdfonaaDoor.Op Go.Proofs.YtkhhhhdebdfonaaDoor.QValueBack Go.Proofs.YtkhhhhdebdfonaaDoor.PA
open Go.ChangeMaps (open_string shut_string)
set_option linter.unusedVariables false
set_option linter.unusedSimpArgs false

theorem own : ownKnob Tryd.prog.godebug = none := by kernel_rfl
theorem laidOut : laidOutB Tryd.prog = true := by kernel_rfl
def laid : List (String × DataW Unit) := [("math/bits.deBruijn32tab", Rows.laid_math_bits_deBruijn32tab), ("math/bits.deBruijn64tab", Rows.laid_math_bits_deBruijn64tab), ("internal/strconv.uint64pow10", Rows.laid_internal_strconv_uint64pow10), ("unicode/utf8.acceptRanges", Rows.laid_unicode_utf8_acceptRanges), ("unicode/utf8.first", Rows.laid_unicode_utf8_first)]
set_option maxRecDepth 100000 in
theorem lifted (os : Os) (started : os.Started) (H : Type) (enc : TypeId × Value → H) (F : Stop.Interp) :
    ReturnsInHanded {} Tryd.checked os 6 .any ((OpenSpec.ofChange Rows.valueBackSpec).preRow enc Tryd.prog Tryd.f6 [] false laid) (((OpenSpec.ofChange Rows.valueBackSpec).at F).post enc Tryd.prog Tryd.f6 false true false false) := by
  refine returnsInHanded_of_row (C := Tryd.checked) (s := (OpenSpec.ofChange Rows.valueBackSpec)) own started (by kernel_rfl) Tryd.func6
    (ChangeSpec.witness_shaped (enc := enc) (C := Tryd.checked) (os := os) (s := Rows.valueBackSpec) (fn := Tryd.f6) (conds := []) (apart := false) (X := fun w _ => laidMetH Tryd.prog laid w) false (World.laidAll Tryd.prog os laid) #[.agg #[.int .i64 0, .int .i64 0, .string ⟨#[]⟩], .agg #[.int .i64 0, .int .i64 0, .string ⟨#[]⟩], .int .i64 0] 8 (World.laidAll_os _ _ _)
      (World.shaped_of_ZipB (by kernel_rfl) (by kernel_rfl)) (by kernel_rfl) (by kernel_rfl) (by kernel_rfl)
      (by rw [MakeChecks.laidMetH_plain _ _ _ (by kernel_rfl)]; exact laidMet_laidAll _ (by kernel_rfl) (by kernel_rfl))) ?_
  intro W base args ds gs before hval0 hW _ _ hsz0 hL hsh _
  have hsz : (DataW.weightsEach Tryd.prog (Tryd.f6.params.toList ++ Rows.valueBackSpec.plain.varTypes Tryd.prog) (ds ++ gs)).all (· ≤ reachBytes) = true := hsz0
  have hval : ∀ (j : Nat) t v, Tryd.f6.params[j]? = some t → args[j]? = some v → Value.okWide Tryd.prog W .any base t v := hval0
  have hW' := hW
  obtain ⟨p, q, hA0, hV, rfl, hfz, hnd⟩ := hW
  have hA : DataW.TrodAll enc Tryd.prog W 0 (fun _ => true) true Tryd.f6.params.toList args.toList ds p := hA0
  rw [Tryd.params6] at hA hval hsz
  obtain ⟨v0, vs0, d0, ds0, p0, q0, hargs, rfl, rfl, h0, r0⟩ := trodAll_cons hA
  obtain ⟨v1, vs1, d1, ds1, p1, q1, rfl, rfl, rfl, h1, r1⟩ := trodAll_cons r0
  obtain ⟨v2, vs2, d2, ds2, p2, q2, rfl, rfl, rfl, h2, r2⟩ := trodAll_cons r1
  obtain ⟨rfl, rfl, rfl⟩ := trodAll_nil r2
  obtain rfl : args = #[v0, v1, v2] := by cases args; simp_all
  obtain ⟨rfl, rfl⟩ := trodVars_none hV
  rw [MakeChecks.laidMetH_plain _ _ _ (by kernel_rfl)] at hL
  have hG : Go.Proofs.YtkhhhhdebdfonaaDoor.Bs.Gl W := Go.Proofs.YtkhhhhdebdfonaaDoor.Gs.start W hsh hL (by simp [laid])
  have k0 := h0
  have lt0 : ∀ x ∈ p0, x.block < W.heap.size := by obtain ⟨m, hm⟩ := k0; exact DataW.trod_lt m _ _ _ hm
  have w0 := hw_of hsz (j := 0) (t := 24) rfl rfl
  obtain ⟨cs0, y0, rfl, K0, B0⟩ := arg_agg op24 Tryd.underlying24 (hval 0 24 v0 rfl rfl) h0 w0
  have e0 := Go.Proofs.YtkhhhhdebdfonaaDoor.PA.k24_open K0
  obtain rfl : cs0 = #[.int .i64 y0.f0, .int .i64 y0.f1, .string y0.f2] := by have z_ := congrArg List.toArray e0; simpa using z_
  have k1 := h1
  have lt1 : ∀ x ∈ p1, x.block < W.heap.size := by obtain ⟨m, hm⟩ := k1; exact DataW.trod_lt m _ _ _ hm
  have w1 := hw_of hsz (j := 1) (t := 24) rfl rfl
  obtain ⟨cs1, y1, rfl, K1, B1⟩ := arg_agg op24 Tryd.underlying24 (hval 1 24 v1 rfl rfl) h1 w1
  have e1 := Go.Proofs.YtkhhhhdebdfonaaDoor.PA.k24_open K1
  obtain rfl : cs1 = #[.int .i64 y1.f0, .int .i64 y1.f1, .string y1.f2] := by have z_ := congrArg List.toArray e1; simpa using z_
  have k2 := h2
  have lt2 : ∀ x ∈ p2, x.block < W.heap.size := by obtain ⟨m, hm⟩ := k2; exact DataW.trod_lt m _ _ _ hm
  have w2 := hw_of hsz (j := 2) (t := 22) rfl rfl
  obtain ⟨y2, rfl, rfl, rfl, B2⟩ := open_int Tryd.underlying22 (hval 2 22 v2 rfl rfl) h2
  obtain ⟨k, hp⟩ := Go.Proofs.YtkhhhhdebdfonaaDoor.LValueBack.pure y0.f0 y0.f1 y0.f2 y1.f0 y1.f1 y1.f2 y2 B0 B1 B2
  refine (instarlaw03_ValueBack.calls k y0.f0 y0.f1 y0.f2 y1.f0 y1.f1 y1.f2 y2 true W  hG ⟨rfl⟩ hp).mono fun e W' ⟨he, bel⟩ => ?_
  subst he
  exact ⟨_, rfl, _, _, _, [], _, [], hW', trodAll_mk1 (shut_bool Tryd.underlying4 _), (trodAll_cons_mk (Below.trod laidOut (by kernel_rfl) (of_decide_eq_true (by kernel_rfl)) k0 bel lt0) (trodAll_cons_mk (Below.trod laidOut (by kernel_rfl) (of_decide_eq_true (by kernel_rfl)) k1 bel lt1) (trodAll_cons_mk (Below.trod laidOut (by kernel_rfl) (of_decide_eq_true (by kernel_rfl)) k2 bel lt2) trodAll_mk0))), rfl, bel.frame _, fun h => by cases h⟩
theorem over : Rows.valueBackRow.holds Tryd.pinned (OpenSpec.ofChange Rows.valueBackSpec) :=
  OpenClaim.holds_of_cond 6 Tryd.f6 rfl rfl rfl rfl rfl rfl rfl ⟨rfl, rfl, rfl, rfl, rfl⟩ rfl rfl rfl rfl rfl (by kernel_rfl) Tryd.func6 (by kernel_rfl)
    (of_decide_eq_true (by kernel_rfl)) (by unfold Func.isWrapper; first | (rw [if_pos (by decide +kernel)]; kernel_rfl) | (rw [if_neg (by decide +kernel)]; exact ⟨rfl, rfl⟩))
    (fun os started H enc _ F => by rw [OpenClaim.pre_eq_preRow]; exact lifted os started H enc F)
theorem card : Rows.ValueBackCardSaid :=
  Claim7.holds_tied_plain_at .later [] [.data, .data, .data, .data, .pinned] true (true, "36c3687909fe3d9e58e0f631b950e05ec3c5af4131df9ae389fada48fca62d10") false over (fun _ h => by cases h) (by kernel_rfl) (fun _ h => by cases h) valueBack_row_tie rfl ⟨rfl, rfl⟩ (by kernel_rfl) rfl
    (fun f fn hf hfn => by
      obtain rfl : f = 6 := Option.some.inj ((show Tryd.prog.funcNamed "instar/instarlaw03.ValueBack" = some 6 by kernel_rfl).symm.trans hf) |>.symm
      obtain rfl : fn = Tryd.f6 := (Option.some.inj (Tryd.func6.symm.trans hfn)).symm
      exact ⟨by kernel_rfl, fun j t ht => by
        rw [Tryd.params6] at ht
        have hm : t ∈ [24, 24, 22] := by simpa using Array.mem_of_getElem? ht
        have hall : ([24, 24, 22].all fun u => !Tryd.prog.wantsStandIn u) = true := by kernel_rfl
        exact (show Tryd.prog.wantsStandIn t = false by simpa using List.all_eq_true.1 hall t hm)⟩)
    (by kernel_rfl)
end Go.Proofs.YtkhhhhdebdfonaaDoor.RowValueBack
namespace Go.Proofs.YtkhhhhdebdfonaaDoor
/-- The claim, under a short name. -/
theorem valueBack_holds : Rows.ValueBackCardSaid := RowValueBack.card
#print axioms valueBack_holds
end Go.Proofs.YtkhhhhdebdfonaaDoor
