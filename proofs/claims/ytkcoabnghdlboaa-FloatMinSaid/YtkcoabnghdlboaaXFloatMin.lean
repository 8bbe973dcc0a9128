/- FloatMin. No condition beyond the row's own. -/
import Derived.Test.YtkcoabnghdlboaaQ6
import Derived.Test.YtkcoabnghdlboaaFFloatMin
import Derived.Test.YtkcoabnghdlboaaY1
namespace Go.Proofs.Ytkcoabnghdlboaa.Q
open Go.RowKit Go.Proofs.YtkcoabnghdlboaaW Go.Proofs.YtkcoabnghdlboaaW.PrintWords Go.Proofs.YtkcoabnghdlboaaW.PrintLast Go.Proofs.YtkcoabnghdlboaaW.PrintMore
open FL
set_option linter.unusedVariables false
set_option linter.unusedSimpArgs false

theorem quiet_nan {x : Int} (h : inU x = true) (hn : isNaN x = true) : inU (quietS x) = true ∧ isNaN (quietS x) = true := by
  obtain ⟨X, rfl, hX⟩ := one_nat h
  have e : quietS (X : Int) = IntKind.u64.wrap (((BitVec.ofInt 64 (X : Int)) ||| (BitVec.ofInt 64 2251799813685248)).toNat : Int) := rfl
  have h1 : (BitVec.ofInt 64 2251799813685248).toNat = 2 ^ 51 := by decide
  have hb : ((BitVec.ofInt 64 (X : Int)) ||| (BitVec.ofInt 64 2251799813685248)).toNat < 18446744073709551616 := ((BitVec.ofInt 64 (X : Int)) ||| (BitVec.ofInt 64 2251799813685248)).isLt
  rw [BitVec.toNat_or, h1, ofInt_nat X hX] at hb
  rw [BitVec.toNat_or, h1, ofInt_nat X hX, wrap_u64] at e
  have e2 : quietS (X : Int) = ((X ||| 2 ^ 51 : Nat) : Int) := by rw [e]; generalize X ||| 2 ^ 51 = Z at *; omega
  rw [e2]
  rw [nan_nat, decide_eq_true_eq] at hn
  constructor
  · rw [inU_iff]; generalize X ||| 2 ^ 51 = Z at *; omega
  · rw [nan_nat, decide_eq_true_eq]
    have h3 : (X ||| 2 ^ 51) % 2 ^ 63 = X % 2 ^ 63 ||| 2 ^ 51 % 2 ^ 63 := Nat.or_mod_two_pow
    have h4 : X % 2 ^ 63 ≤ X % 2 ^ 63 ||| 2 ^ 51 % 2 ^ 63 := Nat.left_le_or
    rw [← h3, p63] at h4
    omega
theorem min_key {a b : Int} (ha : inU a = true) (hb : inU b = true) (na : isNaN a = false) (nb : isNaN b = false) : minS a b = if keyS b < keyS a then b else a := by
  have h := min_r ha hb
  unfold heronryref02_Min.f at h
  simp only [class_r ha, class_r hb, Option.bind_some, class_nan, key_r ha, key_r hb, na, nb, Bool.false_eq_true, if_false] at h
  split at h <;> rename_i hk
  · rw [if_pos hk]; exact (Option.some.inj h).symm
  · rw [if_neg hk]; exact (Option.some.inj h).symm
theorem max_key {a b : Int} (ha : inU a = true) (hb : inU b = true) (na : isNaN a = false) (nb : isNaN b = false) : maxS a b = if keyS a < keyS b then b else a := by
  have h := max_r ha hb
  unfold heronryref02_Max.f at h
  simp only [class_r ha, class_r hb, Option.bind_some, class_nan, key_r ha, key_r hb, na, nb, Bool.false_eq_true, if_false, gt_iff_lt] at h
  split at h <;> rename_i hk
  · rw [if_pos hk]; exact (Option.some.inj h).symm
  · rw [if_neg hk]; exact (Option.some.inj h).symm
theorem keys_same {a b : Int} (ha : inU a = true) (hb : inU b = true) (h : keyS a = keyS b) : a = b := by rw [← from_key ha, ← from_key hb, h]
set_option maxHeartbeats 1000000 in
theorem heronrylaw02_FloatMin_pure (a b : Int) (ha : inU a = true) (hb : inU b = true) : heronrylaw02_FloatMin.f 1 a b = some true := by
  unfold heronrylaw02_FloatMin.f
  simp only [awake_p, Option.bind_some, min_p ha hb, max_p ha hb, nan_law a ha, nan_law b hb]
  cases na : isNaN a
  · simp only [Bool.false_eq_true, if_false]
    cases nb : isNaN b
    · have m1 := min_key ha hb na nb
      have m2 := max_key ha hb na nb
      have m3 := min_key hb ha nb na
      have m4 := max_key hb ha nb na
      have m5 := min_key ha ha na na
      rw [if_neg (by omega)] at m5
      simp only [heronrylaw02_FloatMin.j0, Bool.false_eq_true, if_false, if_true, min_p hb ha, max_p hb ha, min_p ha ha, Option.bind_some]
      have kl1 := key_lt ha hb
      have kl2 := key_lt hb ha
      rcases Int.lt_trichotomy (keyS a) (keyS b) with hk | hk | hk
      · rw [if_neg (by omega)] at m1 m4
        rw [if_pos hk] at m2 m3
        have hne : lessS b a = false := by
          rw [less_num nb na, decide_eq_false_iff_not]
          have := kl1.1 hk
          omega
        have hle : keyS a ≤ keyS b := by omega
        simp only [m1, m2, m3, m4, m5, less_p hb ha, key_p ha, key_p hb, Option.bind_some, if_true, hne, Bool.false_eq_true, if_false, hle, beq_self_eq_true]
      · obtain rfl := keys_same ha hb hk
        have hne : lessS a a = false := by
          rw [less_num na na, decide_eq_false_iff_not]
          omega
        simp only [ite_self] at m1 m2 m3 m4
        have hle : keyS a ≤ keyS a := by omega
        simp only [m1, m2, m3, m4, m5, less_p ha ha, key_p ha, Option.bind_some, if_true, hne, Bool.false_eq_true, if_false, hle, beq_self_eq_true]
      · rw [if_pos hk] at m1 m4
        rw [if_neg (by omega)] at m2 m3
        have hne : lessS a b = false := by
          rw [less_num na nb, decide_eq_false_iff_not]
          have := kl2.1 hk
          omega
        have hle : keyS b ≤ keyS a := by omega
        have hab : ¬ b = a := by intro h; rw [h] at hk; omega
        simp only [m1, m2, m3, m4, m5, less_p ha hb, key_p ha, key_p hb, Option.bind_some, if_true, hne, Bool.false_eq_true, if_false, hle, beq_self_eq_true, hab]
    · have e1 : minS a b = quietS b := by unfold minS; rw [na, nb]; rfl
      have e2 : maxS a b = quietS b := by unfold maxS; rw [na, nb]; rfl
      obtain ⟨q1, q2⟩ := quiet_nan hb nb
      simp only [heronrylaw02_FloatMin.j0, if_true, e1, e2, nan_law _ q1, q2, Option.bind_some, beq_self_eq_true]
  · have e1 : minS a b = quietS a := by unfold minS; rw [na]; rfl
    have e2 : maxS a b = quietS a := by unfold maxS; rw [na]; rfl
    obtain ⟨q1, q2⟩ := quiet_nan ha na
    simp only [heronrylaw02_FloatMin.j0, if_true, e1, e2, nan_law _ q1, q2, Option.bind_some, beq_self_eq_true]

end Go.Proofs.Ytkcoabnghdlboaa.Q
namespace Go.Proofs.Ytkcoabnghdlboaa
open Q
theorem floatMin_holds : Rows.FloatMinSaid := floatMin.said fun a0 a1 w h0 h1 => Q.heronrylaw02_FloatMin.calls 1 a0 a1 true w ⟨rfl⟩ (heronrylaw02_FloatMin_pure a0 a1 (inU_of h0) (inU_of h1)) |>.mono fun _ _ h => ⟨h.1, h.2⟩
end Go.Proofs.Ytkcoabnghdlboaa
