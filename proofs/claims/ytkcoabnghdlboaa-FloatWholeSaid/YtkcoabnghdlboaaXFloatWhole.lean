/- FloatWhole. No condition beyond the row's own. -/
import Derived.Test.YtkcoabnghdlboaaQ7
import Derived.Test.YtkcoabnghdlboaaFFloatWhole
import Derived.Test.YtkcoabnghdlboaaY1
namespace Go.Proofs.Ytkcoabnghdlboaa.Q
open Go.RowKit Go.Proofs.YtkcoabnghdlboaaW Go.Proofs.YtkcoabnghdlboaaW.PrintWords Go.Proofs.YtkcoabnghdlboaaW.PrintLast Go.Proofs.YtkcoabnghdlboaaW.PrintMore
open FL
set_option linter.unusedVariables false
set_option linter.unusedSimpArgs false

theorem wrap64_in {v : Int} (h1 : -9223372036854775808 ≤ v) (h2 : v ≤ 9223372036854775807) : wrap64 v = v := by unfold wrap64; omega
theorem heronrylaw02_FloatWhole_pure (a b : Int) : heronrylaw02_FloatWhole.f a b = some true := by
  unfold heronrylaw02_FloatWhole.f
  rw [and_9007199254740991, and_9007199254740991, wrap64_in (v := b % 9007199254740992 - 4503599627370496) (by omega) (by omega), wrap64_in (v := -(b % 9007199254740992 - 4503599627370496)) (by omega) (by omega)]
  have hx : -9007199254740992 < a % 9007199254740992 ∧ a % 9007199254740992 < 9007199254740992 := by omega
  have hy : -9007199254740992 < b % 9007199254740992 - 4503599627370496 ∧ b % 9007199254740992 - 4503599627370496 < 9007199254740992 := by omega
  generalize a % 9007199254740992 = x at *
  generalize b % 9007199254740992 - 4503599627370496 = y at *
  have ix : inI x = true := (inI_iff x).2 ⟨by omega, by omega⟩
  have iy : inI y = true := (inI_iff y).2 ⟨by omega, by omega⟩
  obtain ⟨l1, l2⟩ := of_less x y hx.1 hx.2 hy.1 hy.2
  have e2 : (decide (x = y) == (x == y)) = true := by
    by_cases h : x = y <;> simp [h]
  simp only [awake_p, Option.bind_some, of_p ix, of_p iy, int_p (of_in ix), int_p (of_in iy), neg_p (of_in iy), int_p (neg_in (of_in iy)), whole_int x hx.1 hx.2, whole_int y hy.1 hy.2, whole_neg y hy.1 hy.2, if_true, less_p (of_in ix) (of_in iy), eql_p (of_in ix) (of_in iy), l1, l2, beq_self_eq_true, e2]

end Go.Proofs.Ytkcoabnghdlboaa.Q
namespace Go.Proofs.Ytkcoabnghdlboaa
open Q
theorem floatWhole_holds : Rows.FloatWholeSaid := floatWhole.said fun a0 a1 w _ _ => Q.heronrylaw02_FloatWhole.calls a0 a1 true w ⟨rfl⟩ (heronrylaw02_FloatWhole_pure a0 a1) |>.mono fun _ _ h => ⟨h.1, h.2.below⟩
end Go.Proofs.Ytkcoabnghdlboaa
