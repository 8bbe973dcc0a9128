import Derived.Test.YtkcoabnghdlboaaH4
namespace Go.Proofs.Ytkcoabnghdlboaa.Q
open Go.RowKit Go.Proofs.YtkcoabnghdlboaaW Go.Proofs.YtkcoabnghdlboaaW.PrintWords Go.Proofs.YtkcoabnghdlboaaW.PrintLast Go.Proofs.YtkcoabnghdlboaaW.PrintMore
open FL
set_option linter.unusedVariables false
set_option linter.unusedSimpArgs false


theorem whole_word (X : Nat) (hX : X < 18446744073709551616) (hn : ¬ 9218868437227405312 < X % 9223372036854775808) : (FloatKind.f64.format.order X (truncN X) != some .eq) = !wholeR (X % 9223372036854775808) := by
  show (Ieee.double.order X (truncN X) != some .eq) = _
  by_cases hg : 4841369599423283200 ≤ X % 9223372036854775808
  · rw [trunc_great X hX hg (by omega), order_eq, if_neg (fun h => h.elim hn hn)]
    have e : wholeR (X % 9223372036854775808) = true := by
      unfold wholeR
      rw [decide_eq_true (p := 4841369599423283200 ≤ X % 9223372036854775808) hg, decide_eq_true (p := 4607182418800017408 ≤ X % 9223372036854775808) (by omega)]
      simp
    rw [e, cmp_int, if_neg (by omega), if_pos rfl]
    rfl
  · obtain ⟨q, h1, h2, h3, h4⟩ := trunc_small X (by omega)
    have hr := rung_word (X / 9223372036854775808 % 2 == 1) q (by omega)
    have hs := sv_word (X / 9223372036854775808 % 2 == 1) q (by omega)
    rw [h1, order_eq, hr, hs, if_neg (fun h => h.elim hn (by omega))]
    unfold svN
    generalize (X / 9223372036854775808 % 2 == 1) = s at *
    generalize X % 9223372036854775808 = r at *
    by_cases hq : q = r
    · rw [h3.1 hq, hq, cmp_int, if_neg (by omega), if_pos rfl]
      rfl
    · have hw : wholeR r = false := by
        cases h : wholeR r
        · rfl
        · exact absurd (h3.2 h) hq
      rw [hw, cmp_int]
      cases s
      · rw [if_neg (show ¬ false = true by decide), if_neg (show ¬ false = true by decide)]
        by_cases hl : (r : Int) < (q : Int)
        · rw [if_pos hl]; rfl
        · rw [if_neg hl, if_neg (by omega)]; rfl
      · rw [if_pos rfl, if_pos rfl]
        by_cases hl : -(r : Int) < -(q : Int)
        · rw [if_pos hl]; rfl
        · rw [if_neg hl, if_neg (by omega)]; rfl

theorem absInt_small (r : Nat) (h : r < 4890909195324358656) : absInt r < 9223372036854775808 := by
  unfold absInt
  split
  · decide
  · split
    · exact Nat.lt_of_le_of_lt (Nat.div_le_self _ _) (by omega)
    · have h1 : r / 4503599627370496 - 1075 ≤ 10 := by omega
      have h2 : 2 ^ (r / 4503599627370496 - 1075) ≤ 2 ^ 10 := Nat.pow_le_pow_right (by decide) h1
      have h3 : 4503599627370496 + r % 4503599627370496 < 9007199254740992 := by omega
      have h4 := Nat.mul_lt_mul_of_lt_of_le h3 h2 (by decide)
      exact Nat.lt_of_lt_of_le h4 (by decide)
theorem absInt_top : absInt 4890909195324358656 = 9223372036854775808 := by decide

def signedS (b : Int) : Int := if 9223372036854775808 ≤ b then -(absInt (b.toNat % 9223372036854775808) : Int) else (absInt (b.toNat % 9223372036854775808) : Int)
theorem toInt_word (X : Nat) (hX : X < 18446744073709551616) (hn : X % 9223372036854775808 ≤ 4890909195324358656) : (FloatKind.f64.decode X).toInt .zero = some (signedS (X : Int)) := by
  show (Ieee.double.read X).toInt .zero = _
  have hs : signedS (X : Int) = if (X / 9223372036854775808 % 2 == 1) = true then -(absInt (X % 9223372036854775808) : Int) else (absInt (X % 9223372036854775808) : Int) := by
    unfold signedS
    rw [Int.toNat_natCast]
    by_cases h1 : 9223372036854775808 ≤ X
    · have : X / 9223372036854775808 % 2 = 1 := by omega
      rw [this, if_pos (by omega)]; rfl
    · have : X / 9223372036854775808 % 2 = 0 := by omega
      rw [this, if_neg (by omega)]; rfl
  rw [hs]
  have fin : ∀ (s : Bool) (a : Nat), some (Ieee.signed s a 0) = some (if s = true then -(a : Int) else (a : Int)) := by
    intro s a
    unfold Ieee.signed
    rw [Nat.shiftLeft_zero]

  by_cases hg : 4841369599423283200 ≤ X % 9223372036854775808
  · rw [read_fin X (by omega)]
    generalize (X / 9223372036854775808 % 2 == 1) = s
    generalize X % 9223372036854775808 = r at *
    have hm : mag r = 4503599627370496 + r % 4503599627370496 := by unfold mag; rw [if_neg (by omega)]
    have hu : up r = r / 4503599627370496 - 1 := rfl
    have i1 : (-1074 + (up r : Int)).toNat = r / 4503599627370496 - 1075 := by rw [hu]; omega
    have i2 : (-(-1074 + (up r : Int))).toNat = 0 := by rw [hu]; omega
    have ha : absInt r = mag r * 2 ^ (r / 4503599627370496 - 1075) := by unfold absInt; rw [if_neg (by omega), if_neg (by omega), hm]
    rw [ha]
    simp only [Ieee.Datum.toInt, Ieee.Datum.integral, i1, i2, cutz_zero, Nat.shiftLeft_eq]
    exact fin _ _
  · obtain ⟨q, h1, h2, h3, h4⟩ := trunc_small X (by omega)
    simp only [Ieee.Datum.toInt, h4]
    exact fin _ _
theorem conv_word (X : Nat) (hX : X < 18446744073709551616) (hn : X % 9223372036854775808 ≤ 4890909195324358656) (ht : X < 9223372036854775808 → X < 4890909195324358656) : floatToIntVal .f64 X .i64 = some (signedS (X : Int)) := by
  unfold floatToIntVal
  rw [toInt_word X hX hn]
  have h1 : IntKind.i64.min = -9223372036854775808 := by decide
  have h2 : IntKind.i64.max = 9223372036854775807 := by decide
  have hb : -9223372036854775808 ≤ signedS (X : Int) ∧ signedS (X : Int) ≤ 9223372036854775807 := by
    unfold signedS
    rw [Int.toNat_natCast]
    by_cases hneg : 9223372036854775808 ≤ X
    · rw [if_pos (by omega)]
      by_cases he : X % 9223372036854775808 = 4890909195324358656
      · rw [he, absInt_top]; omega
      · have := absInt_small (X % 9223372036854775808) (by omega)
        omega
    · rw [if_neg (by omega)]
      have := absInt_small (X % 9223372036854775808) (by have := ht (by omega); omega)
      omega
  simp only [h1, h2]
  rw [if_pos hb]

def intB (nan whole low high : Bool) (v : Int) : Int × Bool := if nan || !whole || low || high then (0, false) else (v, true)
def intS (b : Int) : Int × Bool := intB (isNaN b) (wholeR (b.toNat % 9223372036854775808)) (lessS b 14114281232179134464) (lessS 4890909195324358656 b || eqlS b 4890909195324358656) (signedS b)
end Go.Proofs.Ytkcoabnghdlboaa.Q
