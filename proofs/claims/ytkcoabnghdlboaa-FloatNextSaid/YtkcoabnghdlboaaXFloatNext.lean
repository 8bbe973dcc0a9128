/- FloatNext. No condition beyond the row's own. -/
import Derived.Test.YtkcoabnghdlboaaQ3
import Derived.Test.YtkcoabnghdlboaaFFloatNext
import Derived.Test.YtkcoabnghdlboaaY0
namespace Go.Proofs.Ytkcoabnghdlboaa.Q
open Go.RowKit Go.Proofs.YtkcoabnghdlboaaW Go.Proofs.YtkcoabnghdlboaaW.PrintWords Go.Proofs.YtkcoabnghdlboaaW.PrintLast Go.Proofs.YtkcoabnghdlboaaW.PrintMore
open FL
set_option linter.unusedVariables false
set_option linter.unusedSimpArgs false

theorem class_inf (x : Int) : (classS x = 3) = (x % 9223372036854775808 = 9218868437227405312) := by
  apply propext
  unfold classS isNaN
  simp only [decide_eq_true_eq]
  split
  · simp; omega
  · split
    · simp; omega
    · split
      · simp; omega
      · split
        · simp; omega
        · simp; omega
theorem next_num {a : Int} (ha : inU a = true) (na : isNaN a = false) (hi : a ≠ 9218868437227405312) : inU (nextS a) = true ∧ isNaN (nextS a) = false ∧ sv (nextS a) = sv a + 1 := by
  have h1 := (inU_iff a).1 ha
  have n0 : isNaN 0 = false := by decide
  have n1 : isNaN 9218868437227405311 = false := by decide
  have s1 : sv 9218868437227405311 = 9218868437227405311 := by decide
  have s0 : sv 0 = 0 := by decide
  have hnn : ¬ (9218868437227405312 < a % 9223372036854775808) := by unfold isNaN at na; simpa using na
  have hsv : sv a = if 9223372036854775808 ≤ a then -(a - 9223372036854775808) else a := rfl
  unfold nextS nextB
  rw [less_num n1 na, eql_num na n0, s1, s0, na]
  simp only [decide_eq_true_eq, Bool.false_eq_true, if_false]
  have c2 : ¬ 9218868437227405311 < sv a := by rw [hsv]; split <;> omega
  rw [if_neg c2]
  by_cases c3 : sv a = 0
  · rw [if_pos c3, c3]; decide
  · rw [if_neg c3]
    by_cases c4 : 9223372036854775808 ≤ a
    · rw [if_pos c4] at hsv ⊢
      rw [hsv, inU_iff]
      unfold isNaN sv
      refine ⟨by omega, by rw [decide_eq_false_iff_not]; omega, ?_⟩
      by_cases c5 : 9223372036854775808 ≤ a - 1
      · rw [if_pos c5]; omega
      · rw [if_neg c5]; omega
    · rw [if_neg c4] at hsv ⊢
      rw [hsv, inU_iff]
      unfold isNaN sv
      refine ⟨by omega, by rw [decide_eq_false_iff_not]; omega, ?_⟩
      rw [if_neg (by omega)]
theorem heronrylaw02_FloatNext_pure (a b : Int) (ha : inU a = true) (hb : inU b = true) : heronrylaw02_FloatNext.f 1 a b = some true := by
  have h1 := (inU_iff a).1 ha
  have h00 : inU 0 = true := by decide
  have n0 : isNaN 0 = false := by decide
  have s0 : sv 0 = 0 := by decide
  have hsv : sv a = if 9223372036854775808 ≤ a then -(a - 9223372036854775808) else a := rfl
  unfold heronrylaw02_FloatNext.f
  simp only [awake_p, Option.bind_some, next_p ha, nan_law a ha, class_p ha, class_inf, less_p h00 ha]
  cases na : isNaN a
  · simp only [Bool.false_eq_true, if_false]
    by_cases hi : a = 9218868437227405312
    · subst hi
      rw [if_pos (by decide)]
      have e : lessS 0 9218868437227405312 = true := by decide
      have e2 : (nextS 9218868437227405312 == 9218868437227405312) = true := by decide
      simp only [heronrylaw02_FloatNext.j0, e, e2, if_true]
    · have e : (if a % 9223372036854775808 = 9218868437227405312 then heronrylaw02_FloatNext.j0 1 a b true (nextS a) (lessS 0 a) else heronrylaw02_FloatNext.j0 1 a b true (nextS a) false) = heronrylaw02_FloatNext.j0 1 a b true (nextS a) false := by
        by_cases c : a % 9223372036854775808 = 9218868437227405312
        · have : lessS 0 a = false := by
            rw [less_num n0 na, s0, decide_eq_false_iff_not, hsv]
            split <;> omega
          rw [if_pos c, this]
        · rw [if_neg c]
      rw [e]
      obtain ⟨i1, i2, i3⟩ := next_num ha na hi
      have l1 : lessS a (nextS a) = true := by rw [less_num na i2, decide_eq_true_eq]; omega
      simp only [heronrylaw02_FloatNext.j0, Bool.false_eq_true, if_false, if_true, nan_law b hb, Option.bind_some, less_p ha i1, less_p ha hb, less_p hb i1, l1]
      cases nb : isNaN b
      · simp only [Bool.false_eq_true, if_false]
        rw [less_num na nb, less_num nb i2]
        by_cases c : sv a < sv b
        · rw [decide_eq_true c, if_pos rfl, decide_eq_false (by omega)]; rfl
        · rw [decide_eq_false c, if_neg (by decide)]; rfl
      · simp
  · have e : (nextS a == a) = true := by
      unfold nextS nextB
      rw [na]; simp
    simp only [heronrylaw02_FloatNext.j0, if_true, e]

end Go.Proofs.Ytkcoabnghdlboaa.Q
namespace Go.Proofs.Ytkcoabnghdlboaa
open Q
theorem floatNext_holds : Rows.FloatNextSaid := floatNext.said fun a0 a1 w h0 h1 => Q.heronrylaw02_FloatNext.calls 1 a0 a1 true w ⟨rfl⟩ (heronrylaw02_FloatNext_pure a0 a1 (inU_of h0) (inU_of h1)) |>.mono fun _ _ h => ⟨h.1, h.2.below⟩
end Go.Proofs.Ytkcoabnghdlboaa
