/- FloatKinds. No condition beyond the row's own. -/
import Derived.Test.YtkcoabnghdlboaaQ8
import Derived.Test.YtkcoabnghdlboaaFFloatKinds
import Derived.Test.YtkcoabnghdlboaaY1
namespace Go.Proofs.Ytkcoabnghdlboaa.Q
open Go.RowKit Go.Proofs.YtkcoabnghdlboaaW Go.Proofs.YtkcoabnghdlboaaW.PrintWords Go.Proofs.YtkcoabnghdlboaaW.PrintLast Go.Proofs.YtkcoabnghdlboaaW.PrintMore
open FL
set_option linter.unusedVariables false
set_option linter.unusedSimpArgs false

theorem class_inf (x : Int) : (classS x = 3) = (x % 9223372036854775808 = 9218868437227405312) := by
  apply propext
  unfold classS isNaN
  simp only [decide_eq_true_eq]
  split
  · simp; omega
  · split
    · simp; omega
    · split
      · simp; omega
      · split
        · simp; omega
        · simp; omega
theorem class_two (x : Int) : (classS x = 2) = (x % 9223372036854775808 < 9218868437227405312 ∧ 4503599627370496 ≤ x % 9223372036854775808) := by
  apply propext
  unfold classS isNaN
  simp only [decide_eq_true_eq]
  split
  · simp; omega
  · split
    · simp; omega
    · split
      · simp; omega
      · split
        · simp; omega
        · simp; omega
theorem class_range (x : Int) : classS x ≥ 0 ∧ classS x ≤ 4 := by
  unfold classS
  split
  · decide
  · split
    · decide
    · split
      · decide
      · split <;> decide
theorem absInt_pos {r : Nat} (h : 4607182418800017408 ≤ r) (h2 : r < 9223372036854775808) : absInt r ≠ 0 := by
  unfold absInt
  rw [if_neg (by omega)]
  split
  · have hd : 1075 - r / 4503599627370496 ≤ 52 := by omega
    have : 2 ^ (1075 - r / 4503599627370496) ≤ 4503599627370496 + r % 4503599627370496 := by
      refine Nat.le_trans (Nat.pow_le_pow_right (by decide) hd) ?_
      rw [p52]; omega
    have := Nat.div_pos this (Nat.two_pow_pos _)
    omega
  · exact Nat.mul_ne_zero (by omega) (Nat.pos_iff_ne_zero.1 (Nat.two_pow_pos _))
theorem wholeR_cases {r : Nat} (h : wholeR r = true) : r = 0 ∨ 4607182418800017408 ≤ r := by
  unfold wholeR at h
  simp only [Bool.or_eq_true, Bool.and_eq_true, decide_eq_true_eq] at h
  omega
/-- What Int tells, of a number or not. -/
theorem int_kinds (x : Int) (h : inU x = true) : ((intS x).2 = true ∧ x % 9223372036854775808 = 0 ∧ (intS x).1 = 0) ∨ ((intS x).2 = true ∧ x % 9223372036854775808 < 9218868437227405312 ∧ 4503599627370496 ≤ x % 9223372036854775808 ∧ (intS x).1 ≠ 0) ∨ ((intS x).2 = false ∧ x % 9223372036854775808 ≠ 0) := by
  have hu := (inU_iff x).1 h
  have key : ∀ q : Nat, q ≤ 9218868437227405312 → wholeR q = true → q ≤ 4890909195324358656 → (q = 0 ∧ absInt q = 0) ∨ (q < 9218868437227405312 ∧ 4503599627370496 ≤ q ∧ absInt q ≠ 0) := by
    intro q hq hw hl
    rcases wholeR_cases hw with h0 | h1
    · left; rw [h0]; decide
    · right; exact ⟨by omega, by omega, absInt_pos h1 (by omega)⟩
  have w0 : wholeR 0 = true := by decide
  by_cases nb : 9218868437227405312 < x % 9223372036854775808
  · right; right
    refine ⟨?_, by omega⟩
    unfold intS intB isNaN
    rw [decide_eq_true nb]
    rfl
  · by_cases hb : x < 9223372036854775808
    · have e : x = ((x.toNat : Nat) : Int) := by omega
      rw [e, intS_pos x.toNat (by omega)]
      generalize x.toNat = q at *
      split
      · rename_i hc
        rcases key q (by omega) hc.1 (by omega) with ⟨k1, k2⟩ | ⟨k1, k2, k3⟩
        · left; rw [k2]; exact ⟨rfl, by omega, rfl⟩
        · right; left; exact ⟨rfl, by omega, by omega, by show ((absInt q : Nat) : Int) ≠ 0; omega⟩
      · rename_i hc
        right; right
        refine ⟨rfl, fun hz => hc ?_⟩
        have : q = 0 := by omega
        rw [this]; exact ⟨w0, by decide⟩
    · have e : x = 9223372036854775808 + (((x - 9223372036854775808).toNat : Nat) : Int) := by omega
      have hq : (x - 9223372036854775808).toNat ≤ 9218868437227405312 := by omega
      rw [e, intS_neg _ hq]
      generalize (x - 9223372036854775808).toNat = q at *
      split
      · rename_i hc
        rcases key q (by omega) hc.1 (by omega) with ⟨k1, k2⟩ | ⟨k1, k2, k3⟩
        · left; rw [k2]; exact ⟨rfl, by omega, rfl⟩
        · right; left; exact ⟨rfl, by omega, by omega, by show -((absInt q : Nat) : Int) ≠ 0; omega⟩
      · rename_i hc
        right; right
        refine ⟨rfl, fun hz => hc ?_⟩
        have : q = 0 := by omega
        rw [this]; exact ⟨w0, by decide⟩
theorem heronrylaw02_FloatKinds_pure (a : Int) (ha : inU a = true) : heronrylaw02_FloatKinds.f 1 a = some true := by
  have hu := (inU_iff a).1 ha
  have h00 : inU 0 = true := by decide
  have cr := class_range a
  have i1 := abs_in ha
  have i2 := neg_in ha
  have hneg : negS a % 9223372036854775808 = a % 9223372036854775808 := by unfold negS; split <;> omega
  have c2 : classS (negS a) = classS a := by rw [← class_rung (negS a), hneg, class_rung]
  have nn : negS (negS a) = a := by unfold negS; split <;> split <;> omega
  have n0 : isNaN 0 = false := by decide
  have s0 : sv 0 = 0 := by decide
  have la : lessS (a % 9223372036854775808) 0 = false := by
    cases na : isNaN (a % 9223372036854775808)
    · rw [less_num na n0, s0, decide_eq_false_iff_not]
      unfold sv
      rw [if_neg (by omega)]; omega
    · exact less_nanl na
  have le : ((classS a == 4) == (!eqlS a a)) = true := by
    rw [class_nanb]
    cases na : isNaN a
    · rw [eql_num na na, decide_eq_true rfl]; rfl
    · rw [eql_nanl na]; rfl
  have tail : heronrylaw02_FloatKinds.j0 1 a true (classS a) (a % 9223372036854775808) false = some true := by
    have fin : (if classS a = 3 then (some ((a % 9223372036854775808) == 9218868437227405312)) else (some true)) = some true := by
      split
      · rename_i h; rw [class_inf] at h; rw [h]; rfl
      · rfl
    simp only [heronrylaw02_FloatKinds.j0, Bool.false_eq_true, if_false, if_true, cr.1, cr.2, class_p i1, class_rung, neg_p ha, class_p i2, c2, neg_p i2, nn, Option.bind_some, less_p i1 h00, la, eql_p ha ha, le, fin]
    by_cases h : a % 9223372036854775808 = a
    · rw [if_pos h]
    · rw [if_neg h, if_pos]
      unfold negS
      rw [if_neg (by omega)]; omega
  unfold heronrylaw02_FloatKinds.f
  simp only [awake_p, class_p ha, int_p ha, abs_p ha, Option.bind_some]
  have cz := class_zero a
  have ct := class_two a
  rcases int_kinds a ha with ⟨k1, k2, k3⟩ | ⟨k1, k2, k3, k4⟩ | ⟨k1, k2⟩
  · have c0 : classS a = 0 := by rw [cz]; exact k2
    rw [c0] at tail
    rw [k1, k3, c0]
    simp [tail]
  · have c0 : classS a = 2 := by rw [ct]; exact ⟨k2, k3⟩
    have e4 : ((intS a).1 == 0) = false := by simpa using k4
    rw [c0] at tail
    rw [k1, e4, c0]
    simp [tail]
  · have c0 : ¬ classS a = 0 := by rw [cz]; exact k2
    have e4 : (classS a == 0) = false := by simpa using c0
    rw [k1, e4]
    simp [tail]

end Go.Proofs.Ytkcoabnghdlboaa.Q
namespace Go.Proofs.Ytkcoabnghdlboaa
open Q
theorem floatKinds_holds : Rows.FloatKindsSaid := floatKinds.said fun a0 w h0 => Q.heronrylaw02_FloatKinds.calls 1 a0 true w ⟨rfl⟩ (heronrylaw02_FloatKinds_pure a0 (inU_of h0)) |>.mono fun _ _ h => ⟨h.1, h.2.below⟩
end Go.Proofs.Ytkcoabnghdlboaa
