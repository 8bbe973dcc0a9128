/- FloatOrder. No condition beyond the row's own. -/
import Derived.Test.YtkcoabnghdlboaaQ2
import Derived.Test.YtkcoabnghdlboaaFFloatOrder
import Derived.Test.YtkcoabnghdlboaaY0
namespace Go.Proofs.Ytkcoabnghdlboaa.Q
open Go.RowKit Go.Proofs.YtkcoabnghdlboaaW Go.Proofs.YtkcoabnghdlboaaW.PrintWords Go.Proofs.YtkcoabnghdlboaaW.PrintLast Go.Proofs.YtkcoabnghdlboaaW.PrintMore
open FL
set_option linter.unusedVariables false
set_option linter.unusedSimpArgs false

theorem beq_dec {a b : Int} : (a == b) = decide (a = b) := by
  by_cases h : a = b
  · simp [h]
  · simp [h]
theorem heronrylaw02_FloatOrder_pure (a b : Int) (ha : inU a = true) (hb : inU b = true) : heronrylaw02_FloatOrder.f 3 a b = some true := by
  have h1 := (inU_iff a).1 ha
  have h2 := (inU_iff b).1 hb
  unfold heronrylaw02_FloatOrder.f
  simp only [awake_p, Option.bind_some, key_p ha, key_p hb, from_p (key_in ha), from_p ha, key_p (from_in ha), from_key ha, key_from ha, if_true]
  have e : ((keyS a == keyS b) != (a == b)) = false := by
    have : keyS a = keyS b ↔ a = b := by
      constructor
      · intro h; rw [← from_key ha, ← from_key hb, h]
      · intro h; rw [h]
    by_cases h : a = b
    · simp [h]
    · have h3 : ¬ keyS a = keyS b := fun k => h (this.1 k)
      rw [beq_dec, beq_dec, decide_eq_false h3, decide_eq_false h]; rfl
  rw [e]
  simp only [heronrylaw02_FloatOrder.j0, Bool.false_eq_true, if_false, nan_law a ha, nan_law b hb, Option.bind_some]
  cases na : isNaN a
  · simp only [Bool.false_eq_true, if_false]
    cases nb : isNaN b
    · simp only [heronrylaw02_FloatOrder.j1, Bool.false_eq_true, if_false, class_p ha, class_p hb, Option.bind_some, class_zero]
      have kl := key_lt ha hb
      have sva : sv a = if 9223372036854775808 ≤ a then -(a - 9223372036854775808) else a := rfl
      have svb : sv b = if 9223372036854775808 ≤ b then -(b - 9223372036854775808) else b := rfl
      by_cases hz : a % 9223372036854775808 = 0 ∧ b % 9223372036854775808 = 0
      · have z1 : (classS b == 0) = true := by
          have := class_zero b
          rw [beq_iff_eq, this]
          exact hz.2
        rw [if_pos hz.1, z1]
        have q : sv a = 0 := by rw [sva]; split <;> omega
        have q' : sv b = 0 := by rw [svb]; split <;> omega
        simp only [heronrylaw02_FloatOrder.j2, if_true, eql_p ha hb, less_p ha hb, Option.bind_some, eql_num na nb, less_num na nb, q, q']
        decide
      · have z : (if a % 9223372036854775808 = 0 then heronrylaw02_FloatOrder.j2 1 a b true (classS b == 0) else heronrylaw02_FloatOrder.j2 1 a b true false) = heronrylaw02_FloatOrder.j2 1 a b true false := by
          by_cases hz1 : a % 9223372036854775808 = 0
          · have z1 : (classS b == 0) = false := by
              have := class_zero b
              rw [beq_eq_false_iff_ne, Ne, this]
              exact fun k => hz ⟨hz1, k⟩
            rw [if_pos hz1, z1]
          · rw [if_neg hz1]
        rw [z]
        have f1 : (lessS a b == decide (keyS a < keyS b)) = true := by
          rw [less_num na nb, beq_iff_eq, decide_eq_decide, kl]
          rw [sva, svb]
          split <;> split <;> omega
        have f2 : (eqlS a b == (a == b)) = true := by
          rw [eql_num na nb, beq_iff_eq, beq_dec, decide_eq_decide, sva, svb]
          split <;> split <;> omega
        simp only [heronrylaw02_FloatOrder.j2, Bool.false_eq_true, if_false, if_true, less_p ha hb, key_p ha, key_p hb, eql_p ha hb, Option.bind_some, f1, f2]
    · simp only [heronrylaw02_FloatOrder.j1, if_true, less_p ha hb, eql_p ha hb, less_p hb ha, Option.bind_some, less_nanr nb, eql_nanr nb, less_nanl nb]
      decide
  · simp only [heronrylaw02_FloatOrder.j1, if_true, less_p ha hb, eql_p ha hb, less_p hb ha, Option.bind_some, less_nanr na, eql_nanl na, less_nanl na]
    decide

end Go.Proofs.Ytkcoabnghdlboaa.Q
namespace Go.Proofs.Ytkcoabnghdlboaa
open Q
theorem floatOrder_holds : Rows.FloatOrderSaid := floatOrder.said fun a0 a1 w h0 h1 => Q.heronrylaw02_FloatOrder.calls 3 a0 a1 true w ⟨rfl⟩ (heronrylaw02_FloatOrder_pure a0 a1 (inU_of h0) (inU_of h1)) |>.mono fun _ _ h => ⟨h.1, h.2.below⟩
end Go.Proofs.Ytkcoabnghdlboaa
