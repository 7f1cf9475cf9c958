/- For every input the law instar/instarlaw08.LexWords returns true, and each argument reads afterwards as it read before; no condition but the row's own (what the listed variables hold, which the card ties to the program's text). -/
import Derived.Test.YtngeelpfbajppaaDoorCLexWords2
import Derived.Test.YtngeelpfbajppaaDoorCLexWords1
import Derived.Test.YtngeelpfbajppaaDoorCLexWords0
import Derived.Test.YtngeelpfbajppaaDoorRows
import Derived.Lib.LaidU8
import Derived.Lib.LaidTab
import Derived.Shelf.LaysM
import Derived.Test.YtngeelpfbajppaaDoorCards
import Derived.Test.YtngeelpfbajppaaDoorTie
import Derived.WalkKit
import Derived.ProofKit
import Derived.OpenShut
import Derived.ShutString
import Derived.ChangeOld
import Derived.Below
import Derived.SizedLaws
import Derived.Deep.DeepHandedRow
import Derived.Deep.DeepWitnessRowRef
import Derived.Lay
import Derived.LaidOnce
import Derived.SevenTiedAt
import Derived.Lib.SmallJoins
section
namespace Go.Proofs.YtngeelpfbajppaaDoor.LLexWords
open Go Go.RowKit Go.Proofs.YtngeelpfbajppaaDoorW.PrintWords Go.Proofs.YtngeelpfbajppaaDoor.PA Go.Proofs.YtngeelpfbajppaaDoor.Op Go.Proofs.YtngeelpfbajppaaDoor.Rk Go.Proofs.YtngeelpfbajppaaDoor.Lw
set_option linter.unusedVariables false
set_option linter.unusedSimpArgs false
theorem alive_ev : Evr (fun k => instarlaw08_alive.f k) true := Evr.mono instarlaw08_alive.at_ instarlaw08_alive.mono
theorem rd35 {l : List S35} {i : Nat} (h : i < l.length) : rd_T35 l (i : Int) = l[i] := by simp [rd_T35, h]
theorem to_l (l : List S35) (hl : l.length ≤ 4000) : ∀ n i, n + i = l.length → Evr (fun k => instarlaw08_To.l0 k l ((l.take i).map conv) (i : Int)) (l.map conv)
  | 0, i, hn => by
    refine Evr.succ ?_
    simp only [instarlaw08_To.l0]
    rw [List.take_of_length_le (by omega)]
    exact Evr.neg (by omega) (Evr.const rfl)
  | n + 1, i, hn => by
    have c : i < l.length := by omega
    have ih := to_l l hl n (i + 1) (by omega)
    have e1 : wrap64 ((i : Int) + 1) = ((i + 1 : Nat) : Int) := wrap_nat (by omega)
    refine Evr.succ ?_
    simp only [instarlaw08_To.l0, e1]
    rw [rd35 c]
    refine Evr.pos (by omega) (Evr.pos (by omega) (Evr.pos (by rw [List.length_map, List.length_take]; omega) ?_))
    rw [List.take_succ_eq_append_getElem c, List.map_append] at ih
    exact ih
theorem to_ev (l : List S35) (hl : l.length ≤ 4000) : Evr (fun k => instarlaw08_To.f k l) (l.map conv) := by
  unfold instarlaw08_To.f
  exact to_l l hl l.length 0 rfl
theorem same_l (l : List S44) (hl : l.length ≤ 4000) : ∀ n i, n + i = l.length → Evr (fun k => instarlaw08_Same.l0 k l l (i : Int)) true
  | 0, i, hn => by
    refine Evr.succ ?_
    simp only [instarlaw08_Same.l0]
    exact Evr.neg (by omega) (Evr.const rfl)
  | n + 1, i, hn => by
    have c : i < l.length := by omega
    have ih := same_l l hl n (i + 1) (by omega)
    have e1 : wrap64 ((i : Int) + 1) = ((i + 1 : Nat) : Int) := wrap_nat (by omega)
    refine Evr.succ ?_
    simp only [instarlaw08_Same.l0, e1]
    exact Evr.pos (by omega) (Evr.pos (by omega) (Evr.pos (by omega) (Evr.neg (by simp) ih)))
theorem same_ev (l : List S44) (hl : l.length ≤ 4000) : Evr (fun k => instarlaw08_Same.f k l l) true := by
  unfold instarlaw08_Same.f
  exact Evr.pos rfl (same_l l hl l.length 0 rfl)
theorem own_eq (s : ByteArray) (n : Nat) : lex_Own.f (n + 8) s = instarref08_Own.f s := by
  have r0 : (rdOf ByteArray.empty ([(⟨#[116, 114, 117, 101]⟩ : ByteArray), (⟨#[102, 97, 108, 115, 101]⟩ : ByteArray), (⟨#[110, 117, 108, 108]⟩ : ByteArray), (⟨#[97, 110, 100]⟩ : ByteArray), (⟨#[111, 114]⟩ : ByteArray), (⟨#[110, 111, 116]⟩ : ByteArray), (⟨#[105, 115]⟩ : ByteArray)] : List ByteArray) 0).toList = [116, 114, 117, 101] := by decide +kernel
  have r1 : (rdOf ByteArray.empty ([(⟨#[116, 114, 117, 101]⟩ : ByteArray), (⟨#[102, 97, 108, 115, 101]⟩ : ByteArray), (⟨#[110, 117, 108, 108]⟩ : ByteArray), (⟨#[97, 110, 100]⟩ : ByteArray), (⟨#[111, 114]⟩ : ByteArray), (⟨#[110, 111, 116]⟩ : ByteArray), (⟨#[105, 115]⟩ : ByteArray)] : List ByteArray) 1).toList = [102, 97, 108, 115, 101] := by decide +kernel
  have r2 : (rdOf ByteArray.empty ([(⟨#[116, 114, 117, 101]⟩ : ByteArray), (⟨#[102, 97, 108, 115, 101]⟩ : ByteArray), (⟨#[110, 117, 108, 108]⟩ : ByteArray), (⟨#[97, 110, 100]⟩ : ByteArray), (⟨#[111, 114]⟩ : ByteArray), (⟨#[110, 111, 116]⟩ : ByteArray), (⟨#[105, 115]⟩ : ByteArray)] : List ByteArray) 2).toList = [110, 117, 108, 108] := by decide +kernel
  have r3 : (rdOf ByteArray.empty ([(⟨#[116, 114, 117, 101]⟩ : ByteArray), (⟨#[102, 97, 108, 115, 101]⟩ : ByteArray), (⟨#[110, 117, 108, 108]⟩ : ByteArray), (⟨#[97, 110, 100]⟩ : ByteArray), (⟨#[111, 114]⟩ : ByteArray), (⟨#[110, 111, 116]⟩ : ByteArray), (⟨#[105, 115]⟩ : ByteArray)] : List ByteArray) 3).toList = [97, 110, 100] := by decide +kernel
  have r4 : (rdOf ByteArray.empty ([(⟨#[116, 114, 117, 101]⟩ : ByteArray), (⟨#[102, 97, 108, 115, 101]⟩ : ByteArray), (⟨#[110, 117, 108, 108]⟩ : ByteArray), (⟨#[97, 110, 100]⟩ : ByteArray), (⟨#[111, 114]⟩ : ByteArray), (⟨#[110, 111, 116]⟩ : ByteArray), (⟨#[105, 115]⟩ : ByteArray)] : List ByteArray) 4).toList = [111, 114] := by decide +kernel
  have r5 : (rdOf ByteArray.empty ([(⟨#[116, 114, 117, 101]⟩ : ByteArray), (⟨#[102, 97, 108, 115, 101]⟩ : ByteArray), (⟨#[110, 117, 108, 108]⟩ : ByteArray), (⟨#[97, 110, 100]⟩ : ByteArray), (⟨#[111, 114]⟩ : ByteArray), (⟨#[110, 111, 116]⟩ : ByteArray), (⟨#[105, 115]⟩ : ByteArray)] : List ByteArray) 5).toList = [110, 111, 116] := by decide +kernel
  have r6 : (rdOf ByteArray.empty ([(⟨#[116, 114, 117, 101]⟩ : ByteArray), (⟨#[102, 97, 108, 115, 101]⟩ : ByteArray), (⟨#[110, 117, 108, 108]⟩ : ByteArray), (⟨#[97, 110, 100]⟩ : ByteArray), (⟨#[111, 114]⟩ : ByteArray), (⟨#[110, 111, 116]⟩ : ByteArray), (⟨#[105, 115]⟩ : ByteArray)] : List ByteArray) 6).toList = [105, 115] := by decide +kernel
  have w1 : wrap64 (0 + 1) = 1 := by unfold wrap64; omega
  have w2 : wrap64 (1 + 1) = 2 := by unfold wrap64; omega
  have w3 : wrap64 (2 + 1) = 3 := by unfold wrap64; omega
  have w4 : wrap64 (3 + 1) = 4 := by unfold wrap64; omega
  have w5 : wrap64 (4 + 1) = 5 := by unfold wrap64; omega
  have w6 : wrap64 (5 + 1) = 6 := by unfold wrap64; omega
  have w7 : wrap64 (6 + 1) = 7 := by unfold wrap64; omega
  have hL : ((([(⟨#[116, 114, 117, 101]⟩ : ByteArray), (⟨#[102, 97, 108, 115, 101]⟩ : ByteArray), (⟨#[110, 117, 108, 108]⟩ : ByteArray), (⟨#[97, 110, 100]⟩ : ByteArray), (⟨#[111, 114]⟩ : ByteArray), (⟨#[110, 111, 116]⟩ : ByteArray), (⟨#[105, 115]⟩ : ByteArray)] : List ByteArray).length : Nat) : Int) = 7 := rfl
  simp only [lex_Own.f, slices_Contains_string_string.f, slices_Index_string_string.f, instarref08_Own.f]
  generalize ([(⟨#[116, 114, 117, 101]⟩ : ByteArray), (⟨#[102, 97, 108, 115, 101]⟩ : ByteArray), (⟨#[110, 117, 108, 108]⟩ : ByteArray), (⟨#[97, 110, 100]⟩ : ByteArray), (⟨#[111, 114]⟩ : ByteArray), (⟨#[110, 111, 116]⟩ : ByteArray), (⟨#[105, 115]⟩ : ByteArray)] : List ByteArray) = L at r0 r1 r2 r3 r4 r5 r6 hL ⊢
  simp only [slices_Index_string_string.l0, hL, r0, r1, r2, r3, r4, r5, r6, w1, w2, w3, w4, w5, w6, w7, show (0 : Int) < 7 by decide, show (1 : Int) < 7 by decide, show (2 : Int) < 7 by decide, show (3 : Int) < 7 by decide, show (4 : Int) < 7 by decide, show (5 : Int) < 7 by decide, show (6 : Int) < 7 by decide, show ¬ (7 : Int) < 7 by decide, show (0 : Int) ≤ 0 by decide, show (0 : Int) ≤ 1 by decide, show (0 : Int) ≤ 2 by decide, show (0 : Int) ≤ 3 by decide, show (0 : Int) ≤ 4 by decide, show (0 : Int) ≤ 5 by decide, show (0 : Int) ≤ 6 by decide, if_true, if_false]
  by_cases h0 : s.toList = [116, 114, 117, 101]
  · rw [if_pos h0, if_pos h0]; rfl
  rw [if_neg h0, if_neg h0]
  by_cases h1 : s.toList = [102, 97, 108, 115, 101]
  · rw [if_pos h1, if_pos h1]; rfl
  rw [if_neg h1, if_neg h1]
  by_cases h2 : s.toList = [110, 117, 108, 108]
  · rw [if_pos h2, if_pos h2]; rfl
  rw [if_neg h2, if_neg h2]
  by_cases h3 : s.toList = [97, 110, 100]
  · rw [if_pos h3, if_pos h3]; rfl
  rw [if_neg h3, if_neg h3]
  by_cases h4 : s.toList = [111, 114]
  · rw [if_pos h4, if_pos h4]; rfl
  rw [if_neg h4, if_neg h4]
  by_cases h5 : s.toList = [110, 111, 116]
  · rw [if_pos h5, if_pos h5]; rfl
  rw [if_neg h5, if_neg h5]
  by_cases h6 : s.toList = [105, 115]
  · rw [if_pos h6, if_pos h6]; rfl
  · rw [if_neg h6, if_neg h6]; rfl
theorem pure : QLexWords.Pure := by
  intro s hs
  refine Evr.ex ?_
  unfold instarlaw08_LexWords.f
  by_cases c : (s.size : Int) > 600
  · exact Evr.pos c (Evr.bind alive_ev (Evr.const rfl))
  · have hl := wd_len s (s.size + 1) [] 0
    simp only [List.length_nil, Nat.zero_add] at hl
    have ho : Evr (fun k => lex_Own.f k s) ((instarref08_Own.f s).getD true) := ⟨8, fun k hk => by
      obtain ⟨m, rfl⟩ : ∃ m, k = m + 8 := ⟨k - 8, by omega⟩
      show lex_Own.f (m + 8) s = _
      rw [own_eq]
      unfold instarref08_Own.f
      repeat' split
      all_goals rfl⟩
    have hr : instarref08_Own.f s = some ((instarref08_Own.f s).getD true) := by
      unfold instarref08_Own.f
      repeat' split
      all_goals rfl
    refine Evr.neg c (Evr.bind (words_ev s (by omega)) (Evr.bind (rwords_ev s (by omega)) (Evr.bind (to_ev _ (by omega)) (Evr.bind (same_ev _ (by rw [List.length_map]; omega)) (Evr.bind alive_ev (Evr.pos rfl (Evr.pos rfl (Evr.pos rfl (Evr.pos rfl (Evr.bind ho (Evr.bindc hr (Evr.const (by simp)))))))))))))
end Go.Proofs.YtngeelpfbajppaaDoor.LLexWords
end
section
namespace Go.Proofs.YtngeelpfbajppaaDoor.Gs
open Go Go.RowKit
set_option linter.unusedVariables false
theorem tab_reads {P : Program} {W : World} {name : String} {k : IntKind} {zs : List Int} {g : Nat} {t e : TypeId} {n : Nat}
    (hg : P.globalNamed name = some g) (hty : (P.globals[g]?).map (·.type) = some t) (ht : P.underlying t = some (.array n e)) (he : P.underlying e = some (.int k)) (hce : P.cellsOf e = 1) (hct : P.cellsOf t = n)
    (h : Lib.VarReads P W name (Lib.tabData k zs)) : Lib.TabIs P W name k zs := by
  obtain ⟨g', t', cs, fuel, p, hg', ht', hvar, hd⟩ := h
  obtain rfl := Option.some.inj (hg.symm.trans hg')
  obtain rfl := Option.some.inj (hty.symm.trans ht')
  unfold Lib.TabIs
  rw [hvar, ← Lib.cells_of_tab ht he hce hct hd]
theorem pow10_eq : (Rows.laid_internal_strconv_uint64pow10 : DataW Unit) = Lib.tabData .u64 Lib.pow10Tab := by kernel_rfl
theorem start {laid : List (String × DataW Unit)} (W : World) (hsh : W.ShapedOpen Tryd.prog) (hL : laidMet Tryd.prog laid W)
    (h1 : ("internal/strconv.uint64pow10", (Rows.laid_internal_strconv_uint64pow10 : DataW Unit)) ∈ laid)
    : Bs.Gl W :=
  { triv := trivial
    maxLen := Go.Proofs.cell_of_shapedOpen_int (zero := #[.int .i64 0]) (t := 3) hsh (of_decide_eq_true (by kernel_rfl)) (by kernel_rfl) rfl (by kernel_rfl) (by kernel_rfl) Tryd.underlying3
    pow10 := tab_reads (g := 3) (t := 117) (e := 103) (n := 20) (by kernel_rfl) (by kernel_rfl) Tryd.underlying117 Tryd.underlying103 (by kernel_rfl) (by kernel_rfl) (pow10_eq ▸ Lib.laidMet.reads hL h1)
  }
end Go.Proofs.YtngeelpfbajppaaDoor.Gs
end
section
namespace Go.Proofs.YtngeelpfbajppaaDoor.RowLexWords
open Go Go.ChangeShapes Go.WideShapes Go.ChangeAt Go.RowKit Go.Proofs.YtngeelpfbajppaaDoor.Op Go.Proofs.YtngeelpfbajppaaDoor.QLexWords Go.Proofs.YtngeelpfbajppaaDoor.PA
open Go.ChangeMaps (open_string shut_string)
set_option linter.unusedVariables false
set_option linter.unusedSimpArgs false
theorem own : ownKnob Tryd.prog.godebug = none := by kernel_rfl
theorem laidOut : laidOutB Tryd.prog = true := by kernel_rfl
def laid : List (String × DataW Unit) := [("math/bits.deBruijn32tab", Rows.laid_math_bits_deBruijn32tab), ("math/bits.deBruijn64tab", Rows.laid_math_bits_deBruijn64tab), ("internal/strconv.uint64pow10", Rows.laid_internal_strconv_uint64pow10), ("unicode/utf8.acceptRanges", Rows.laid_unicode_utf8_acceptRanges), ("unicode/utf8.first", Rows.laid_unicode_utf8_first)]
set_option maxRecDepth 100000 in
theorem lifted (os : Os) (started : os.Started) (H : Type) (enc : TypeId × Value → H) (F : Stop.Interp) :
    ReturnsInHanded {} Tryd.checked os 3 .any ((OpenSpec.ofChange Rows.lexWordsSpec).preRow enc Tryd.prog Tryd.f3 [] false laid) (((OpenSpec.ofChange Rows.lexWordsSpec).at F).post enc Tryd.prog Tryd.f3 false true false false) := by
  refine returnsInHanded_of_row (C := Tryd.checked) (s := (OpenSpec.ofChange Rows.lexWordsSpec)) own started (by kernel_rfl) Tryd.func3
    (ChangeSpec.witness_shaped (enc := enc) (C := Tryd.checked) (os := os) (s := Rows.lexWordsSpec) (fn := Tryd.f3) (conds := []) (apart := false) (X := fun w _ => laidMetH Tryd.prog laid w) false (World.laidAll Tryd.prog os laid) #[.string ⟨#[]⟩] 8 (World.laidAll_os _ _ _)
      (World.shaped_of_ZipB (by kernel_rfl) (by kernel_rfl)) (by kernel_rfl) (by kernel_rfl) (by kernel_rfl)
      (by rw [MakeChecks.laidMetH_plain _ _ _ (by kernel_rfl)]; exact laidMet_laidAll _ (by kernel_rfl) (by kernel_rfl))) ?_
  intro W base args ds gs before hval0 hW _ _ hsz0 hL hsh _
  have hsz : (DataW.weightsEach Tryd.prog (Tryd.f3.params.toList ++ Rows.lexWordsSpec.plain.varTypes Tryd.prog) (ds ++ gs)).all (· ≤ reachBytes) = true := hsz0
  have hval : ∀ (j : Nat) t v, Tryd.f3.params[j]? = some t → args[j]? = some v → Value.okWide Tryd.prog W .any base t v := hval0
  have hW' := hW
  obtain ⟨p, q, hA0, hV, rfl, hfz, hnd⟩ := hW
  have hA : DataW.TrodAll enc Tryd.prog W 0 (fun _ => true) true Tryd.f3.params.toList args.toList ds p := hA0
  rw [Tryd.params3] at hA hval hsz
  obtain ⟨v0, vs0, d0, ds0, p0, q0, hargs, rfl, rfl, h0, r0⟩ := trodAll_cons hA
  obtain ⟨rfl, rfl, rfl⟩ := trodAll_nil r0
  obtain rfl : args = #[v0] := by cases args; simp_all
  obtain ⟨rfl, rfl⟩ := trodVars_none hV
  rw [MakeChecks.laidMetH_plain _ _ _ (by kernel_rfl)] at hL
  have hG : Go.Proofs.YtngeelpfbajppaaDoor.Bs.Gl W := Go.Proofs.YtngeelpfbajppaaDoor.Gs.start W hsh hL (by simp [laid])
  have k0 := h0
  have lt0 : ∀ x ∈ p0, x.block < W.heap.size := by obtain ⟨m, hm⟩ := k0; exact DataW.trod_lt m _ _ _ hm
  have w0 := hw_of hsz (j := 0) (t := 9) rfl rfl
  obtain ⟨y0, rfl, rfl, rfl, _⟩ := open_string Tryd.underlying9 (hval 0 9 v0 rfl rfl) h0
  have B0 : reach y0 := by have z := w0 y0.data.toList.length (by simp [DataW.weights]); rw [Array.length_toList] at z; exact z
  obtain ⟨k, hp⟩ := Go.Proofs.YtngeelpfbajppaaDoor.LLexWords.pure y0 B0
  refine (instarlaw08_LexWords.calls k y0 true W  hG ⟨rfl⟩ hp).mono fun e W' ⟨he, bel⟩ => ?_
  subst he
  exact ⟨_, rfl, _, _, _, [], _, [], hW', trodAll_mk1 (shut_bool Tryd.underlying4 _), (trodAll_cons_mk (Below.trod laidOut (by kernel_rfl) (of_decide_eq_true (by kernel_rfl)) k0 bel lt0) trodAll_mk0), rfl, bel.frame _, fun h => by cases h⟩
theorem over : Rows.lexWordsRow.holds Tryd.pinned (OpenSpec.ofChange Rows.lexWordsSpec) :=
  OpenClaim.holds_of_cond 3 Tryd.f3 rfl rfl rfl rfl rfl rfl rfl ⟨rfl, rfl, rfl, rfl, rfl⟩ rfl rfl rfl rfl rfl (by kernel_rfl) Tryd.func3 (by kernel_rfl)
    (of_decide_eq_true (by kernel_rfl)) (by unfold Func.isWrapper; first | (rw [if_pos (by decide +kernel)]; kernel_rfl) | (rw [if_neg (by decide +kernel)]; exact ⟨rfl, rfl⟩))
    (fun os started H enc _ F => by rw [OpenClaim.pre_eq_preRow]; exact lifted os started H enc F)
theorem card : Rows.LexWordsCardSaid :=
  Claim7.holds_tied_plain_at .later [] [.data, .data, .data, .data, .pinned] true (true, "55c92eca6da9699fccc8f007f3c40d41333532b4ef65a41c0ec2b0b961e7ecaa") false over (fun _ h => by cases h) (by kernel_rfl) (fun _ h => by cases h) lexWords_row_tie rfl ⟨rfl, rfl⟩ (by kernel_rfl) rfl
    (fun f fn hf hfn => by
      obtain rfl : f = 3 := Option.some.inj ((show Tryd.prog.funcNamed "instar/instarlaw08.LexWords" = some 3 by kernel_rfl).symm.trans hf) |>.symm
      obtain rfl : fn = Tryd.f3 := (Option.some.inj (Tryd.func3.symm.trans hfn)).symm
      exact ⟨by kernel_rfl, fun j t ht => by
        rw [Tryd.params3] at ht
        have hm : t ∈ [9] := by simpa using Array.mem_of_getElem? ht
        have hall : ([9].all fun u => !Tryd.prog.wantsStandIn u) = true := by kernel_rfl
        exact (show Tryd.prog.wantsStandIn t = false by simpa using List.all_eq_true.1 hall t hm)⟩)
    (by kernel_rfl)
end Go.Proofs.YtngeelpfbajppaaDoor.RowLexWords
namespace Go.Proofs.YtngeelpfbajppaaDoor
theorem lexWords_holds : Rows.LexWordsCardSaid := RowLexWords.card
#print axioms lexWords_holds
end Go.Proofs.YtngeelpfbajppaaDoor
end
