/- Sums of what was added: plain. No condition. -/
import Derived.Test.YtjpoepiidmoegaaYP
import Derived.Test.YtjpoepiidmoegaaSP
namespace Go.Proofs.Ytjpoepiidmoegaa.Q
open Go.RowKit Go.Proofs.YtjpoepiidmoegaaW Go.Proofs.YtjpoepiidmoegaaW.PrintWords
set_option linter.unusedVariables false
set_option linter.unusedSimpArgs false

/-- All that is added to a counter. -/
def addC (c : Int) (l : List S33) : List Int := (l.filter (fun x => decide (x.f1 = c))).map S33.f2
def sumC (c : Int) (l : List S33) : Int := sumBy id (addC c l)
theorem addC_app (c : Int) (l m : List S33) : addC c (l ++ m) = addC c l ++ addC c m := by unfold addC; rw [List.filter_append, List.map_append]
end Go.Proofs.Ytjpoepiidmoegaa.Q
