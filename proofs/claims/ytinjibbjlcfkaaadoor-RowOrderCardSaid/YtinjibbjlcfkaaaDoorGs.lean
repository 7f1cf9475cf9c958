/- What the calls read of the package-level variables, out of a row's own conditions. -/
import Derived.Test.YtinjibbjlcfkaaaDoorBs
import Derived.Test.YtinjibbjlcfkaaaDoorRows
import Derived.Lib.LaidU8
import Derived.Lib.LaidTab
import Derived.Shelf.LaysM
namespace Go.Proofs.YtinjibbjlcfkaaaDoor.Gs
open Go Go.RowKit
set_option linter.unusedVariables false
theorem tab_reads {P : Program} {W : World} {name : String} {k : IntKind} {zs : List Int} {g : Nat} {t e : TypeId} {n : Nat}
    (hg : P.globalNamed name = some g) (hty : (P.globals[g]?).map (·.type) = some t) (ht : P.underlying t = some (.array n e)) (he : P.underlying e = some (.int k)) (hce : P.cellsOf e = 1) (hct : P.cellsOf t = n)
    (h : Lib.VarReads P W name (Lib.tabData k zs)) : Lib.TabIs P W name k zs := by
  obtain ⟨g', t', cs, fuel, p, hg', ht', hvar, hd⟩ := h
  obtain rfl := Option.some.inj (hg.symm.trans hg')
  obtain rfl := Option.some.inj (hty.symm.trans ht')
  unfold Lib.TabIs
  rw [hvar, ← Lib.cells_of_tab ht he hce hct hd]
theorem pow10_eq : (Rows.laid_internal_strconv_uint64pow10 : DataW Unit) = Lib.tabData .u64 Lib.pow10Tab := by kernel_rfl
theorem start {laid : List (String × DataW Unit)} (W : World) (hsh : W.ShapedOpen Tryd.prog) (hL : laidMet Tryd.prog laid W)
    (h1 : ("internal/strconv.uint64pow10", (Rows.laid_internal_strconv_uint64pow10 : DataW Unit)) ∈ laid)
    : Bs.Gl W :=
  { triv := trivial
    maxLen := Go.Proofs.cell_of_shapedOpen_int (zero := #[.int .i64 0]) (t := 3) hsh (of_decide_eq_true (by kernel_rfl)) (by kernel_rfl) rfl (by kernel_rfl) (by kernel_rfl) Tryd.underlying3
    pow10 := tab_reads (g := 0) (t := 108) (e := 87) (n := 20) (by kernel_rfl) (by kernel_rfl) Tryd.underlying108 Tryd.underlying87 (by kernel_rfl) (by kernel_rfl) (pow10_eq ▸ Lib.laidMet.reads hL h1)
  }
end Go.Proofs.YtinjibbjlcfkaaaDoor.Gs
