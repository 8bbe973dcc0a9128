/- Plain facts of the floats' words. -/
import Derived.Test.YtkcoabnghdlboaaQ13
import Derived.Test.YtkcoabnghdlboaaQ5
import Derived.Test.YtkcoabnghdlboaaB
namespace Go.Proofs.Ytkcoabnghdlboaa.Q
open Go.RowKit Go.Proofs.YtkcoabnghdlboaaW Go.Proofs.YtkcoabnghdlboaaW.PrintWords Go.Proofs.YtkcoabnghdlboaaW.PrintLast Go.Proofs.YtkcoabnghdlboaaW.PrintMore
open FL
set_option linter.unusedVariables false
set_option linter.unusedSimpArgs false

theorem and_low_u (X n : Nat) (hX : X < 18446744073709551616) (hn : n ≤ 63) (m : Int) (hm : m = ((2 ^ n - 1 : Nat) : Int)) : Go.bits .and .u64 (X : Int) m = ((X % 2 ^ n : Nat) : Int) := by
  subst hm
  have e : Go.bits .and .u64 (X : Int) ((2 ^ n - 1 : Nat) : Int) = IntKind.u64.wrap (((BitVec.ofInt 64 (X : Int)) &&& (BitVec.ofInt 64 ((2 ^ n - 1 : Nat) : Int))).toNat : Int) := rfl
  have h0 : 2 ^ n ≤ 2 ^ 63 := Nat.pow_le_pow_right (by decide) hn
  rw [p63] at h0
  have h1 : 2 ^ n - 1 < 18446744073709551616 := by omega
  rw [e, BitVec.toNat_and, ofInt_nat X hX, ofInt_nat _ h1, Nat.and_two_pow_sub_one_eq_mod, wrap_u64]
  have h2 : X % 2 ^ n ≤ X := Nat.mod_le _ _
  omega
theorem size_eq (x : Int) (h : inU x = true) : Go.bits .and .u64 x 9223372036854775807 = x % 9223372036854775808 := by
  obtain ⟨X, rfl, hX⟩ := one_nat h
  rw [and_low_u X 63 hX (by decide) _ (by decide), p63]
  omega
theorem fraction_eq (x : Int) (h : inU x = true) : Go.bits .and .u64 x 4503599627370495 = x % 4503599627370496 := by
  obtain ⟨X, rfl, hX⟩ := one_nat h
  rw [and_low_u X 52 hX (by decide) _ (by decide), p52]
  omega
theorem exponent_eq (x : Int) (h : inU x = true) : Go.bits .and .u64 (x / 4503599627370496) 2047 = x / 4503599627370496 % 2048 := by
  obtain ⟨X, rfl, hX⟩ := one_nat h
  have e : (X : Int) / 4503599627370496 = ((X / 4503599627370496 : Nat) : Int) := by omega
  rw [e, and_low_u (X / 4503599627370496) 11 (by omega) (by decide) _ (by decide), show (2 : Nat) ^ 11 = 2048 by decide]
  omega

theorem class_ref (x : Int) (h : inU x = true) : heronryref02_Class.f x = some (classS x) := by
  unfold heronryref02_Class.f heronryref02_exponent.f heronryref02_fraction.f
  simp only [Option.bind_some]
  rw [exponent_eq x h, fraction_eq x h]
  have hu := (inU_iff x).1 h
  unfold classS isNaN
  simp only [decide_eq_true_eq]
  by_cases c4 : 9218868437227405312 < x % 9223372036854775808
  · rw [if_pos c4, if_neg (by omega), if_pos (by omega), if_neg (by omega)]
  · rw [if_neg c4]
    by_cases c3 : x % 9223372036854775808 = 9218868437227405312
    · rw [if_pos c3, if_neg (by omega), if_pos (by omega), if_pos (by omega)]
    · rw [if_neg c3]
      by_cases c0 : x % 9223372036854775808 = 0
      · rw [if_pos c0, if_pos (by omega), if_pos (by omega)]
      · rw [if_neg c0]
        by_cases c1 : x % 9223372036854775808 < 4503599627370496
        · rw [if_pos c1, if_pos (by omega), if_neg (by omega)]
        · rw [if_neg c1, if_neg (by omega), if_neg (by omega)]
theorem class_nan (x : Int) : (classS x = 4) = (isNaN x = true) := by
  apply propext
  unfold classS
  cases isNaN x
  · simp only [Bool.false_eq_true, if_false, iff_false]
    split
    · decide
    · split
      · decide
      · split <;> decide
  · simp
theorem class_nanb (x : Int) : (classS x == 4) = isNaN x := by
  have h := class_nan x
  cases hx : isNaN x
  · rw [hx] at h; simpa using h
  · rw [hx] at h; simpa using h
theorem class_zero (x : Int) : (classS x = 0) = (x % 9223372036854775808 = 0) := by
  apply propext
  unfold classS isNaN
  simp only [decide_eq_true_eq]
  split
  · simp; omega
  · split
    · simp; omega
    · split
      · simp; omega
      · split
        · simp; omega
        · simp; omega
theorem nan_law (x : Int) (h : inU x = true) : heronrylaw02_nan.f x = some (isNaN x) := by
  unfold heronrylaw02_nan.f float_Class.f
  rw [if_pos h, Option.bind_some, class_nanb]

theorem less_num {a b : Int} (ha : isNaN a = false) (hb : isNaN b = false) : lessS a b = decide (sv a < sv b) := by unfold lessS; rw [ha, hb]; rfl
theorem eql_num {a b : Int} (ha : isNaN a = false) (hb : isNaN b = false) : eqlS a b = decide (sv a = sv b) := by unfold eqlS; rw [ha, hb]; rfl
theorem less_nanl {a b : Int} (ha : isNaN a = true) : lessS a b = false := by unfold lessS; rw [ha]; rfl
theorem less_nanr {a b : Int} (hb : isNaN b = true) : lessS a b = false := by unfold lessS; rw [hb]; cases isNaN a <;> rfl
theorem eql_nanl {a b : Int} (ha : isNaN a = true) : eqlS a b = false := by unfold eqlS; rw [ha]; rfl
theorem eql_nanr {a b : Int} (hb : isNaN b = true) : eqlS a b = false := by unfold eqlS; rw [hb]; cases isNaN a <;> rfl

theorem less_p {a b : Int} (ha : inU a = true) (hb : inU b = true) : float_Less.f a b = some (lessS a b) := if_pos ⟨ha, hb⟩
theorem eql_p {a b : Int} (ha : inU a = true) (hb : inU b = true) : float_Equal.f a b = some (eqlS a b) := if_pos ⟨ha, hb⟩
theorem min_p {a b : Int} (ha : inU a = true) (hb : inU b = true) : float_Min.f a b = some (minS a b) := if_pos ⟨ha, hb⟩
theorem max_p {a b : Int} (ha : inU a = true) (hb : inU b = true) : float_Max.f a b = some (maxS a b) := if_pos ⟨ha, hb⟩
theorem class_p {a : Int} (ha : inU a = true) : float_Class.f a = some (classS a) := if_pos ha
theorem key_p {a : Int} (ha : inU a = true) : float_Key.f a = some (keyS a) := if_pos ha
theorem from_p {a : Int} (ha : inU a = true) : float_FromKey.f a = some (fromS a) := if_pos ha
theorem next_p {a : Int} (ha : inU a = true) : float_Next.f a = some (nextS a) := if_pos ha
theorem int_p {a : Int} (ha : inU a = true) : float_Int.f a = some (intS a) := if_pos ha
theorem of_p {a : Int} (ha : inI a = true) : float_Of.f a = some (ofS a) := if_pos ha
theorem inU_of {a : Int} (h : (Lit.int .u64 a).wf = true) : inU a = true := by
  rw [inU_iff]
  have e : (IntKind.u64.min = 0 ∧ IntKind.u64.max = 18446744073709551615) := by decide
  simp [Lit.wf, e.1, e.2] at h
  exact h
theorem inI_of {a : Int} (h : (Lit.int .i64 a).wf = true) : inI a = true := by
  unfold inI
  have e : (IntKind.i64.min = -9223372036854775808 ∧ IntKind.i64.max = 9223372036854775807) := by decide
  simp [Lit.wf, e.1, e.2] at h
  exact decide_eq_true h
theorem awake_p : heronrylaw02_awake.f = some true := by decide +kernel

theorem key_in {a : Int} (ha : inU a = true) : inU (keyS a) = true := by
  rw [inU_iff] at *
  unfold keyS
  split <;> omega
theorem from_in {a : Int} (ha : inU a = true) : inU (fromS a) = true := by
  rw [inU_iff] at *
  unfold fromS
  split <;> omega
theorem from_key {a : Int} (ha : inU a = true) : fromS (keyS a) = a := by
  rw [inU_iff] at ha
  unfold keyS fromS
  split <;> split <;> omega
theorem key_from {a : Int} (ha : inU a = true) : keyS (fromS a) = a := by
  rw [inU_iff] at ha
  unfold keyS fromS
  split <;> split <;> omega
theorem neg_eq {x : Int} (h : inU x = true) : Go.bits .xor .u64 x 9223372036854775808 = if x < 9223372036854775808 then x + 9223372036854775808 else x - 9223372036854775808 := by
  obtain ⟨X, rfl, hX⟩ := one_nat h
  rw [xor_sign X hX]
  by_cases h1 : X < 9223372036854775808
  · rw [if_pos h1, if_pos (by omega)]
  · rw [if_neg h1, if_neg (by omega)]
theorem abs_eq {x : Int} (h : inU x = true) : Go.bits .andNot .u64 x 9223372036854775808 = x % 9223372036854775808 := by
  obtain ⟨X, rfl, hX⟩ := one_nat h
  rw [andNot_sign X hX]
  omega
def negS (x : Int) : Int := if x < 9223372036854775808 then x + 9223372036854775808 else x - 9223372036854775808
theorem neg_p {x : Int} (h : inU x = true) : float_Neg.f x = some (negS x) := by unfold float_Neg.f; rw [neg_eq h]; rfl
theorem neg_r {x : Int} (h : inU x = true) : heronryref02_Neg.f x = some (negS x) := by unfold heronryref02_Neg.f; rw [neg_eq h]; rfl
theorem abs_p {x : Int} (h : inU x = true) : float_Abs.f x = some (x % 9223372036854775808) := by unfold float_Abs.f; rw [abs_eq h]
theorem abs_r {x : Int} (h : inU x = true) : heronryref02_Abs.f x = some (x % 9223372036854775808) := by unfold heronryref02_Abs.f heronryref02_size.f; rw [size_eq x h]; rfl
theorem neg_in {x : Int} (h : inU x = true) : inU (negS x) = true := by
  rw [inU_iff] at *
  unfold negS
  split <;> omega
theorem abs_in {x : Int} (h : inU x = true) : inU (x % 9223372036854775808) = true := by
  rw [inU_iff] at *
  omega
theorem key_r {x : Int} (h : inU x = true) : heronryref02_Key.f x = some (keyS x) := by
  have hu := (inU_iff x).1 h
  unfold heronryref02_Key.f heronryref02_sign.f keyS
  simp only [Option.bind_some, wrap_u64]
  split
  · rw [if_pos (by omega)]; congr 1; omega
  · rw [if_neg (by omega)]; congr 1; omega
theorem from_r {x : Int} (h : inU x = true) : heronryref02_FromKey.f x = some (fromS x) := by
  have hu := (inU_iff x).1 h
  unfold heronryref02_FromKey.f fromS
  simp only [wrap_u64]
  split
  · congr 1; omega
  · congr 1; omega
theorem size_p {x : Int} (h : inU x = true) : heronryref02_size.f x = some (x % 9223372036854775808) := by unfold heronryref02_size.f; rw [size_eq x h]
theorem class_r {x : Int} (h : inU x = true) : heronryref02_Class.f x = some (classS x) := class_ref x h

theorem less_r {a b : Int} (ha : inU a = true) (hb : inU b = true) (k : Nat) : heronryref02_Less.f (k + 1) a b = some (lessS a b) := by
  have h1 := (inU_iff a).1 ha
  have h2 := (inU_iff b).1 hb
  unfold heronryref02_Less.f
  simp only [class_r ha, class_r hb, size_p ha, size_p hb, Option.bind_some, class_nan]
  cases na : isNaN a
  · cases nb : isNaN b
    · simp only [Bool.false_eq_true, if_false]
      rw [less_num na nb]
      by_cases hz : a % 9223372036854775808 = 0 ∧ b % 9223372036854775808 = 0
      · rw [if_pos hz.1]
        have e : ((b % 9223372036854775808 == 0) = true) := by simpa using hz.2
        rw [e, heronryref02_Less.j0, if_pos rfl, decide_eq_false]
        unfold sv
        split <;> split <;> omega
      · have e : (if a % 9223372036854775808 = 0 then heronryref02_Less.j0 (k + 1) a b (b % 9223372036854775808 == 0) else heronryref02_Less.j0 (k + 1) a b false) = heronryref02_Less.j0 (k + 1) a b false := by
          by_cases hz1 : a % 9223372036854775808 = 0
          · have e : ((b % 9223372036854775808 == 0) = false) := by
              simp only [beq_eq_false_iff_ne]; intro h; exact hz ⟨hz1, h⟩
            rw [if_pos hz1, e]
          · rw [if_neg hz1]
        rw [e]
        simp only [heronryref02_Less.j0, heronryref02_sign.f, Bool.false_eq_true, if_false, Option.bind_some, size_p ha, size_p hb]
        split
        · split
          · congr 1
            rw [decide_eq_decide]
            unfold sv
            split <;> split <;> omega
          · congr 1
            rw [decide_eq_decide]
            unfold sv
            split <;> split <;> omega
        · congr 1
          rw [Bool.eq_iff_iff, beq_iff_eq, decide_eq_true_eq]
          unfold sv
          split <;> split <;> omega
    · rw [less_nanr nb]
      simp [heronryref02_Less.j0]
  · rw [less_nanl na]
    simp [heronryref02_Less.j0]
theorem eql_r {a b : Int} (ha : inU a = true) (hb : inU b = true) (k : Nat) : heronryref02_Equal.f (k + 1) a b = some (eqlS a b) := by
  unfold heronryref02_Equal.f
  simp only [class_r ha, class_r hb, Option.bind_some, class_nan, less_r ha hb k, less_r hb ha k]
  cases na : isNaN a
  · cases nb : isNaN b
    · simp only [Bool.false_eq_true, if_false]
      rw [less_num na nb, less_num nb na, eql_num na nb]
      by_cases h : sv a < sv b
      · rw [decide_eq_true h, if_pos rfl, decide_eq_false (by omega)]
      · rw [decide_eq_false h, if_neg (by decide)]
        congr 1
        by_cases h3 : sv b < sv a
        · rw [decide_eq_true h3, decide_eq_false (by omega)]; rfl
        · rw [decide_eq_false h3, decide_eq_true (by omega)]; rfl
    · rw [eql_nanr nb]; simp
  · rw [eql_nanl na]; simp
/-- Which of two numbers' keys is less. -/
theorem key_lt {a b : Int} (ha : inU a = true) (hb : inU b = true) : (keyS a < keyS b) ↔ (sv a < sv b ∨ (sv a = sv b ∧ 9223372036854775808 ≤ a ∧ b < 9223372036854775808)) := by
  have h1 := (inU_iff a).1 ha
  have h2 := (inU_iff b).1 hb
  unfold keyS sv
  split <;> split <;> omega
theorem min_r {a b : Int} (ha : inU a = true) (hb : inU b = true) : heronryref02_Min.f a b = some (minS a b) := by
  have h1 := (inU_iff a).1 ha
  have h2 := (inU_iff b).1 hb
  have kl := key_lt hb ha
  unfold heronryref02_Min.f heronryref02_quiet.f minS quietS
  simp only [class_r ha, class_r hb, Option.bind_some, class_nan, key_r ha, key_r hb]
  cases na : isNaN a
  · cases nb : isNaN b
    · simp only [Bool.false_eq_true, if_false]
      rw [less_num na nb, less_num nb na]
      simp only [decide_eq_true_eq]
      by_cases h3 : sv a < sv b
      · rw [if_pos h3, if_neg (by rw [kl]; omega)]
      · rw [if_neg h3]
        by_cases h4 : sv b < sv a
        · rw [if_pos h4, if_pos (by rw [kl]; exact Or.inl h4)]
        · rw [if_neg h4]
          by_cases h5 : keyS b < keyS a
          · have := kl.1 h5
            rw [if_pos h5, if_neg (by omega)]
          · rw [if_neg h5]
            by_cases h6 : 9223372036854775808 ≤ a
            · rw [if_pos h6]
            · rw [if_neg h6]
              congr 1
              have h7 : ¬ 9223372036854775808 ≤ b := fun h => h5 (kl.2 (Or.inr ⟨by omega, h, by omega⟩))
              have h8 : sv a = sv b := by omega
              unfold sv at h8
              rw [if_neg h6, if_neg h7] at h8
              exact h8
    · simp
  · simp
theorem max_r {a b : Int} (ha : inU a = true) (hb : inU b = true) : heronryref02_Max.f a b = some (maxS a b) := by
  have h1 := (inU_iff a).1 ha
  have h2 := (inU_iff b).1 hb
  have kl := key_lt ha hb
  unfold heronryref02_Max.f heronryref02_quiet.f maxS quietS
  simp only [class_r ha, class_r hb, Option.bind_some, class_nan, key_r ha, key_r hb, gt_iff_lt]
  cases na : isNaN a
  · cases nb : isNaN b
    · simp only [Bool.false_eq_true, if_false]
      rw [less_num na nb, less_num nb na]
      simp only [decide_eq_true_eq]
      by_cases h3 : sv a < sv b
      · rw [if_pos h3, if_pos (by rw [kl]; exact Or.inl h3)]
      · rw [if_neg h3]
        by_cases h4 : sv b < sv a
        · rw [if_pos h4, if_neg (by rw [kl]; omega)]
        · rw [if_neg h4]
          by_cases h5 : keyS a < keyS b
          · have := kl.1 h5
            rw [if_pos h5, if_pos (by omega)]
          · rw [if_neg h5]
            by_cases h6 : 9223372036854775808 ≤ a
            · rw [if_pos h6]
              congr 1
              have h7 : 9223372036854775808 ≤ b := by
                have : ¬ (sv a = sv b ∧ 9223372036854775808 ≤ a ∧ b < 9223372036854775808) := fun h => h5 (kl.2 (Or.inr h))
                omega
              have h8 : sv a = sv b := by omega
              unfold sv at h8
              rw [if_pos h6, if_pos h7] at h8
              omega
            · rw [if_neg h6]
    · simp
  · simp
theorem next_r {a : Int} (ha : inU a = true) (k : Nat) : heronryref02_Next.f (k + 1) a = some (nextS a) := by
  have h1 := (inU_iff a).1 ha
  unfold heronryref02_Next.f nextS nextB
  simp only [class_r ha, Option.bind_some, class_nan]
  cases na : isNaN a
  · have n0 : isNaN 0 = false := by decide
    have n1 : isNaN 9218868437227405311 = false := by decide
    have s1 : sv 9218868437227405311 = 9218868437227405311 := by decide
    have s0 : sv 0 = 0 := by decide
    have hnn : ¬ (9218868437227405312 < a % 9223372036854775808) := by unfold isNaN at na; simpa using na
    simp only [Bool.false_eq_true, if_false]
    rw [less_num n1 na, eql_num na n0, s1, s0]
    have hsv : sv a = if 9223372036854775808 ≤ a then -(a - 9223372036854775808) else a := rfl
    simp only [heronryref02_Next.j0, heronryref02_sign.f, size_p ha, Option.bind_some, beq_iff_eq, decide_eq_true_eq, wrap_u64]
    by_cases c1 : a = 9218868437227405312
    · subst c1; decide
    · rw [if_neg c1]
      have c2 : ¬ 9218868437227405311 < sv a := by rw [hsv]; split <;> omega
      rw [if_neg c2]
      by_cases c3 : a % 9223372036854775808 = 0
      · have c5 : sv a = 0 := by rw [hsv]; split <;> omega
        rw [if_pos c3, if_pos c5]
      · have c5 : ¬ sv a = 0 := by rw [hsv]; split <;> omega
        rw [if_neg c3, if_neg c5]
        by_cases c4 : 9223372036854775808 ≤ a
        · have c6 : a / 9223372036854775808 = 1 := by omega
          rw [if_pos c4, if_pos c6]; congr 1; omega
        · have c6 : ¬ a / 9223372036854775808 = 1 := by omega
          rw [if_neg c4, if_neg c6]; congr 1; omega
  · simp [heronryref02_Next.j0]
end Go.Proofs.Ytkcoabnghdlboaa.Q
