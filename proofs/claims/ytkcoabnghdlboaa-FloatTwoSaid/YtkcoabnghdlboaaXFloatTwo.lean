/- FloatTwo. No condition beyond the row's own. -/
import Derived.Test.YtkcoabnghdlboaaQ5
import Derived.Test.YtkcoabnghdlboaaFFloatTwo
import Derived.Test.YtkcoabnghdlboaaY0
namespace Go.Proofs.Ytkcoabnghdlboaa.Q
open Go.RowKit Go.Proofs.YtkcoabnghdlboaaW Go.Proofs.YtkcoabnghdlboaaW.PrintWords Go.Proofs.YtkcoabnghdlboaaW.PrintLast Go.Proofs.YtkcoabnghdlboaaW.PrintMore
open FL
set_option linter.unusedVariables false
set_option linter.unusedSimpArgs false

theorem heronrylaw02_FloatTwo_pure (a b : Int) (ha : inU a = true) (hb : inU b = true) : heronrylaw02_FloatTwo.f 1 a b = some true := by
  unfold heronrylaw02_FloatTwo.f
  simp only [awake_p, Option.bind_some, less_p ha hb, less_r ha hb 0, eql_p ha hb, eql_r ha hb 0, min_p ha hb, min_r ha hb, max_p ha hb, max_r ha hb, beq_self_eq_true, if_true]

end Go.Proofs.Ytkcoabnghdlboaa.Q
namespace Go.Proofs.Ytkcoabnghdlboaa
open Q
theorem floatTwo_holds : Rows.FloatTwoSaid := floatTwo.said fun a0 a1 w h0 h1 => Q.heronrylaw02_FloatTwo.calls 1 a0 a1 true w ⟨rfl⟩ (heronrylaw02_FloatTwo_pure a0 a1 (inU_of h0) (inU_of h1)) |>.mono fun _ _ h => ⟨h.1, h.2⟩
end Go.Proofs.Ytkcoabnghdlboaa
