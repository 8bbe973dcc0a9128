/- SpanMeets: at every input the law returns true and its arguments read as before. No condition. -/
import Derived.Test.YthhhfoogfnnooaaQ7
import Derived.Test.YthhhfoogfnnooaaY0
import Derived.Test.YthhhfoogfnnooaaFSpanMeets
namespace Go.Proofs.Ythhhfoogfnnooaa.Q
open Go.RowKit Go.Proofs.YthhhfoogfnnooaaW.PrintWords Go.Proofs.YthhhfoogfnnooaaW.PrintLast Go.Proofs.YthhhfoogfnnooaaW.PrintMore
set_option linter.unusedVariables false

theorem mx_comm (a b : Int) : mx a b = mx b a := by unfold mx; split <;> split <;> omega
theorem mn_comm (a b : Int) : mn a b = mn b a := by unfold mn; split <;> split <;> omega
theorem mx_le (a b v : Int) : mx a b ≤ v ↔ a ≤ v ∧ b ≤ v := by unfold mx; split <;> omega
theorem le_mn (a b v : Int) : v ≤ mn a b ↔ v ≤ a ∧ v ≤ b := by unfold mn; split <;> omega
theorem meet_eq (a b c d : Int) : span_Meet.f a b c d = some (if mx a c > mn b d then (0, 0, false) else (mx a c, mn b d, true)) := by
  unfold span_Meet.f
  split <;> rfl

theorem meets_pure (a b c d v : Int) : heronrylaw12_SpanMeets.f 1 a b c d v = some true := by
  have h1 := mx_le a c v
  have h2 := le_mn b d v
  unfold heronrylaw12_SpanMeets.f heronrylaw12_SpanMeets.j0
  simp only [awake_true, Option.bind_some, meet_eq, mx_comm c a, mn_comm d b, holds_eq]
  generalize mx a c = M at *
  generalize mn b d = N at *
  by_cases h : M > N
  · have h3 : (decide (a ≤ v ∧ v ≤ b) && decide (c ≤ v ∧ v ≤ d)) = false := by
      rw [← Bool.decide_and, decide_eq_false_iff_not]
      omega
    simp only [if_pos h]
    clear h h1 h2
    cases ha : decide (a ≤ v ∧ v ≤ b) <;> cases hc : decide (c ≤ v ∧ v ≤ d) <;> rw [ha, hc] at h3 <;> first | (exact absurd h3 (by decide)) | simp
  · have h3 : (decide (a ≤ v ∧ v ≤ b) && decide (c ≤ v ∧ v ≤ d)) = decide (M ≤ v ∧ v ≤ N) := by
      rw [← Bool.decide_and]
      congr 1
      apply propext
      omega
    simp only [if_neg h]
    clear h h1 h2
    cases ha : decide (a ≤ v ∧ v ≤ b) <;> cases hc : decide (c ≤ v ∧ v ≤ d) <;> rw [ha, hc] at h3 <;> rw [← h3] <;> simp
end Go.Proofs.Ythhhfoogfnnooaa.Q
namespace Go.Proofs.Ythhhfoogfnnooaa
theorem spanMeets_holds : Rows.SpanMeetsSaid :=
  spanMeets.said fun a b c d v w _ _ _ _ _ => Q.heronrylaw12_SpanMeets.calls 1 a b c d v true w (Q.meets_pure a b c d v)
end Go.Proofs.Ythhhfoogfnnooaa
