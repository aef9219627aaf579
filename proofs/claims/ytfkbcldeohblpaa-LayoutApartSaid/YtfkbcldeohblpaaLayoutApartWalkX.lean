/- LayoutApart answers true at every input. -/
import Derived.Test.YtfkbcldeohblpaaLApartWalk
import Derived.Test.YtfkbcldeohblpaaLApartMain
import Derived.Test.YtfkbcldeohblpaaLArr
namespace Go.Proofs.Ytfkbcldeohblpaa
set_option linter.unusedVariables false
set_option linter.unusedSimpArgs false
open Go.RowKit Go.Proofs.YtfkbcldeohblpaaW.PrintWords

theorem LayoutApart_walk (S o c x0 x1 i j : Int) (wS : (Lit.int .i64 S).wf = true) (wo : (Lit.int .i64 o).wf = true) (wc : (Lit.int .i64 c).wf = true) (wx0 : (Lit.int .i64 x0).wf = true) (wx1 : (Lit.int .i64 x1).wf = true)
    (wi : (Lit.int .i64 i).wf = true) (wj : (Lit.int .i64 j).wf = true) (w : World) :
    Calls Try.prog 7 #[.agg #[.int .i64 S, .int .i64 o, .int .i64 c], .agg #[.int .i64 x0, .int .i64 x1], .agg #[.int .i64 i, .int .i64 j]] w fun e w' => e = .returned (.bool true) ∧ Below w.heap.size w w' :=
  PLayoutApart.oakumlaw10_LayoutApart.calls (0 + 1 + 1 + 1 + 1 + 1) S o c x0 x1 i j true w (Aside0.mk rfl) (apart_main 0 S o c x0 x1 i j (bounds_i64 wo) (bounds_i64 wx0))

end Go.Proofs.Ytfkbcldeohblpaa
