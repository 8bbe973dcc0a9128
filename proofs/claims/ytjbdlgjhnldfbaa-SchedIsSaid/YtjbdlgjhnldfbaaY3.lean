import Derived.Test.YtjbdlgjhnldfbaaY2
namespace Go.Proofs.Ytjbdlgjhnldfbaa.Q
open Go.RowKit Go.Proofs.YtjbdlgjhnldfbaaW Go.Proofs.YtjbdlgjhnldfbaaW.PrintWords Go.Proofs.YtjbdlgjhnldfbaaW.PrintLast Go.Proofs.YtjbdlgjhnldfbaaW.PrintMore
open FL
set_option linter.unusedVariables false
theorem inU_of_wf {x : Int} (h : (Lit.int .u64 x).wf = true) : inU x = true := by
  have h1 : (decide (IntKind.u64.min ≤ x) && decide (x ≤ IntKind.u64.max)) = true := h
  have h2 : IntKind.u64.min = 0 := rfl
  have h3 : IntKind.u64.max = 18446744073709551615 := by decide
  rw [h2, h3] at h1
  unfold inU; simpa using h1
end Go.Proofs.Ytjbdlgjhnldfbaa.Q
