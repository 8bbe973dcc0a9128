/- Whole numbers told by floats: plain facts. -/
import Derived.Test.YtkcoabnghdlboaaY0
namespace Go.Proofs.Ytkcoabnghdlboaa.Q
open Go.RowKit Go.Proofs.YtkcoabnghdlboaaW Go.Proofs.YtkcoabnghdlboaaW.PrintWords Go.Proofs.YtkcoabnghdlboaaW.PrintLast Go.Proofs.YtkcoabnghdlboaaW.PrintMore
open FL
set_option linter.unusedVariables false
set_option linter.unusedSimpArgs false

theorem intS_pos (q : Nat) (h : q ≤ 9218868437227405312) : intS (q : Int) = if wholeR q = true ∧ q < 4890909195324358656 then ((absInt q : Int), true) else (0, false) := by
  have na : isNaN (q : Int) = false := by rw [nan_nat, decide_eq_false_iff_not]; omega
  have n1 : isNaN 14114281232179134464 = false := by decide
  have n2 : isNaN 4890909195324358656 = false := by decide
  have s1 : sv 14114281232179134464 = -4890909195324358656 := by decide
  have s2 : sv 4890909195324358656 = 4890909195324358656 := by decide
  have sq : sv (q : Int) = (q : Int) := by unfold sv; rw [if_neg (by omega)]
  have sg : signedS (q : Int) = (absInt q : Int) := by unfold signedS; rw [if_neg (by omega), Int.toNat_natCast, Nat.mod_eq_of_lt (by omega)]
  unfold intS
  rw [less_num na n1, less_num n2 na, eql_num na n2, s1, s2, sq, sg, na, Int.toNat_natCast, Nat.mod_eq_of_lt (by omega : q < 9223372036854775808)]
  by_cases hw : wholeR q = true
  · rw [hw, decide_eq_false (p := (q : Int) < -4890909195324358656) (by omega)]
    by_cases hq : q < 4890909195324358656
    · rw [if_pos (⟨rfl, hq⟩ : true = true ∧ _), decide_eq_false (p := 4890909195324358656 < (q : Int)) (by omega), decide_eq_false (p := (q : Int) = 4890909195324358656) (by omega)]
      rfl
    · rw [if_neg (fun k => hq k.2)]
      by_cases he : (q : Int) = 4890909195324358656
      · rw [decide_eq_true he]; simp [intB]
      · rw [decide_eq_true (p := 4890909195324358656 < (q : Int)) (by omega)]; simp [intB]
  · rw [if_neg (fun k => hw k.1), Bool.eq_false_iff.2 hw]
    simp [intB]
theorem intS_neg (q : Nat) (h : q ≤ 9218868437227405312) : intS (9223372036854775808 + (q : Int)) = if wholeR q = true ∧ q ≤ 4890909195324358656 then (-(absInt q : Int), true) else (0, false) := by
  have e : (9223372036854775808 + (q : Int)) = ((9223372036854775808 + q : Nat) : Int) := by omega
  have na : isNaN (9223372036854775808 + (q : Int)) = false := by rw [e, nan_nat, decide_eq_false_iff_not]; omega
  have n1 : isNaN 14114281232179134464 = false := by decide
  have n2 : isNaN 4890909195324358656 = false := by decide
  have s1 : sv 14114281232179134464 = -4890909195324358656 := by decide
  have s2 : sv 4890909195324358656 = 4890909195324358656 := by decide
  have sq : sv (9223372036854775808 + (q : Int)) = -(q : Int) := by unfold sv; rw [if_pos (by omega)]; omega
  have em : (9223372036854775808 + (q : Int)).toNat % 9223372036854775808 = q := by omega
  have sg : signedS (9223372036854775808 + (q : Int)) = -(absInt q : Int) := by unfold signedS; rw [if_pos (by omega), em]
  unfold intS
  rw [less_num na n1, less_num n2 na, eql_num na n2, s1, s2, sq, sg, na, em]
  by_cases hw : wholeR q = true
  · rw [hw, decide_eq_false (p := 4890909195324358656 < -(q : Int)) (by omega), decide_eq_false (p := -(q : Int) = 4890909195324358656) (by omega)]
    by_cases hq : q ≤ 4890909195324358656
    · rw [if_pos (⟨rfl, hq⟩ : true = true ∧ _), decide_eq_false (p := -(q : Int) < -4890909195324358656) (by omega)]
      rfl
    · rw [if_neg (fun k => hq k.2), decide_eq_true (p := -(q : Int) < -4890909195324358656) (by omega)]
      simp [intB]
  · rw [if_neg (fun k => hw k.1), Bool.eq_false_iff.2 hw]
    simp [intB]

/-- Great rungs: digits and how far up. -/
theorem whole_great {r : Nat} (h : 4841369599423283200 ≤ r) : wholeR r = true := by
  unfold wholeR
  rw [decide_eq_true h, decide_eq_true (p := 4607182418800017408 ≤ r) (by omega)]
  simp
theorem abs_great {r : Nat} (h : 4841369599423283200 ≤ r) (e c : Nat) (d1 : 4503599627370496 + r % 4503599627370496 = c) (d2 : r / 4503599627370496 - 1075 = e) : absInt r = c * 2 ^ e := by
  unfold absInt
  rw [if_neg (by omega), if_neg (by omega), d1, d2]
theorem great (r e c : Nat) (hr : r = (e + 1074) * 4503599627370496 + c) (h1 : 4503599627370496 ≤ c) (h2 : c ≤ 9007199254740992) :
    absInt r = c * 2 ^ e ∧ wholeR r = true := by
  have hg : 4841369599423283200 ≤ r := by omega
  refine ⟨?_, whole_great hg⟩
  by_cases hc : c = 9007199254740992
  · have d1 : 4503599627370496 + r % 4503599627370496 = 4503599627370496 := by omega
    have d2 : r / 4503599627370496 - 1075 = e + 1 := by omega
    rw [abs_great hg (e + 1) 4503599627370496 d1 d2, hc, Nat.pow_succ]
    omega
  · have d1 : 4503599627370496 + r % 4503599627370496 = c := by omega
    have d2 : r / 4503599627370496 - 1075 = e := by omega
    exact abs_great hg e c d1 d2
/-- Small whole numbers are told just so. -/
theorem small_form (m : Nat) (h0 : m ≠ 0) (h : m < 9007199254740992) : m.log2 ≤ 52 ∧ 4503599627370496 ≤ m * 2 ^ (52 - m.log2) ∧ m * 2 ^ (52 - m.log2) < 9007199254740992 := by
  have hb := log2_bounds h0
  have hL : m.log2 ≤ 52 := by
    have : 2 ^ m.log2 < 2 ^ 53 := by rw [p53]; exact Nat.lt_of_le_of_lt hb.1 h
    have := (Nat.pow_lt_pow_iff_right (by decide : 1 < 2)).1 this
    omega
  have hc1 : 4503599627370496 ≤ m * 2 ^ (52 - m.log2) := by
    have := Nat.mul_le_mul_right (2 ^ (52 - m.log2)) hb.1
    rw [← Nat.pow_add, show m.log2 + (52 - m.log2) = 52 by omega, p52] at this
    exact this
  have hc2 : m * 2 ^ (52 - m.log2) < 9007199254740992 := by
    have := Nat.mul_lt_mul_of_pos_right hb.2 (Nat.two_pow_pos (52 - m.log2))
    rw [← Nat.pow_add, show m.log2 + 1 + (52 - m.log2) = 53 by omega, p53] at this
    exact this
  exact ⟨hL, hc1, hc2⟩
theorem abs_low {r : Nat} (h : 4607182418800017408 ≤ r) (h2 : r < 4841369599423283200) (c d m : Nat) (d1 : 4503599627370496 + r % 4503599627370496 = c) (d2 : 1075 - r / 4503599627370496 = d) (hm : m * 2 ^ d = c) : absInt r = m ∧ wholeR r = true := by
  constructor
  · unfold absInt
    rw [if_neg (by omega), if_pos h2, d1, d2, ← hm, Nat.mul_div_cancel _ (Nat.two_pow_pos d)]
  · unfold wholeR
    rw [decide_eq_true h, d1, d2, ← hm, Nat.mul_mod_left]
    simp
theorem small_just (m : Nat) (h : m < 9007199254740992) : absInt (ofN m) = m ∧ wholeR (ofN m) = true ∧ ofN m < 4890909195324358656 := by
  by_cases h0 : m = 0
  · subst h0; decide
  obtain ⟨hL, hc1, hc2⟩ := small_form m h0 h
  have hf : ofN m = (m.log2 + 1022) * 4503599627370496 + m * 2 ^ (52 - m.log2) := by unfold ofN; rw [if_neg h0, if_pos hL]
  obtain ⟨r, hr⟩ : ∃ r, ofN m = r := ⟨_, rfl⟩
  obtain ⟨L, hLL⟩ : ∃ L, m.log2 = L := ⟨_, rfl⟩
  rw [hr]
  rw [hr] at hf
  rw [hLL] at hf hL hc1 hc2
  obtain ⟨c, hc⟩ : ∃ c, m * 2 ^ (52 - L) = c := ⟨_, rfl⟩
  rw [hc] at hf hc1 hc2
  clear hr hLL
  by_cases h52 : L = 52
  · subst h52
    have hmc : m = c := by rw [← hc]; simp
    have d1 : 4503599627370496 + r % 4503599627370496 = c := by clear hc; omega
    have d2 : r / 4503599627370496 - 1075 = 0 := by clear hc; omega
    have hg : 4841369599423283200 ≤ r := by clear hc; omega
    have := abs_great hg 0 c d1 d2
    refine ⟨by rw [this, hmc]; simp, whole_great hg, by clear hc; omega⟩
  · have d1 : 4503599627370496 + r % 4503599627370496 = c := by clear hc; omega
    have d2 : 1075 - r / 4503599627370496 = 52 - L := by clear hc; omega
    have hg : 4607182418800017408 ≤ r := by clear hc; omega
    have hl : r < 4841369599423283200 := by clear hc; omega
    have a := abs_low hg hl c (52 - L) m d1 d2 hc
    exact ⟨a.1, a.2, by omega⟩
theorem ofN_lt {a b : Nat} (ha : a < 9007199254740992) (hb : b < 9007199254740992) : ofN a < ofN b ↔ a < b := by
  obtain ⟨K0, hK0⟩ : ∃ n : Nat, n = 1074 := ⟨_, rfl⟩
  obtain ⟨K, hp, e⟩ : ∃ K, 0 < K ∧ ∀ t, t < 9007199254740992 → M (ofN t) = t * K := by
    refine ⟨2 ^ K0, Nat.two_pow_pos _, fun t ht => ?_⟩
    by_cases h0 : t = 0
    · subst h0
      have : ofN 0 = 0 := by decide
      rw [this, M_zero]; exact (Nat.zero_mul _).symm
    · rw [hK0]; exact (M_ofN t h0 ht).1
  have e1 := e a ha
  have e2 := e b hb
  constructor
  · intro h
    have := M_lt h
    rw [e1, e2] at this
    exact Nat.lt_of_mul_lt_mul_right this
  · intro h
    rcases Nat.lt_or_ge (ofN a) (ofN b) with hl | hl
    · exact hl
    · exfalso
      have hm : M (ofN b) ≤ M (ofN a) := by
        rcases Nat.eq_or_lt_of_le hl with h3 | h3
        · rw [h3]; exact Nat.le_refl _
        · exact Nat.le_of_lt (M_lt h3)
      rw [e1, e2] at hm
      have := Nat.le_of_mul_le_mul_right hm hp
      omega
theorem ofN_bound (m : Nat) (h : m ≤ 9223372036854775808) : ofN m ≤ 1088 * 4503599627370496 := ofN_le m (log_le h)
theorem ofS_pos (m : Nat) : ofS (m : Int) = (ofN m : Int) := by unfold ofS; rw [if_neg (by omega), Int.natAbs_natCast]
theorem ofS_neg (m : Nat) (h : 0 < m) : ofS (-(m : Int)) = 9223372036854775808 + (ofN m : Int) := by unfold ofS; rw [if_pos (by omega), Int.natAbs_neg, Int.natAbs_natCast]
theorem of_in {n : Int} (h : inI n = true) : inU (ofS n) = true := by
  have h' : -9223372036854775808 ≤ n ∧ n ≤ 9223372036854775807 := by unfold inI at h; simpa using h
  have := ofN_bound n.natAbs (by omega)
  rw [inU_iff]
  unfold ofS
  split <;> omega
theorem ofN_zero : ofN 0 = 0 := by decide
theorem ofN_pos {m : Nat} (h : 0 < m) : 0 < ofN m := by
  unfold ofN
  rw [if_neg (by omega)]
  split <;> omega
theorem whole_int (n : Int) (h1 : -9007199254740992 < n) (h2 : n < 9007199254740992) : intS (ofS n) = (n, true) := by
  obtain ⟨m, hm⟩ : ∃ m : Nat, n.natAbs = m := ⟨_, rfl⟩
  obtain ⟨j1, j2, j3⟩ := small_just m (by omega)
  by_cases h : n < 0
  · have e : ofS n = 9223372036854775808 + (ofN m : Int) := by unfold ofS; rw [if_pos h, hm]
    rw [e, intS_neg _ (by omega), if_pos ⟨j2, by omega⟩, j1]
    have : -(m : Int) = n := by omega
    rw [this]
  · have e : ofS n = (ofN m : Int) := by unfold ofS; rw [if_neg h, hm]
    rw [e, intS_pos _ (by omega), if_pos ⟨j2, by omega⟩, j1]
    have : (m : Int) = n := by omega
    rw [this]
theorem whole_neg (n : Int) (h1 : -9007199254740992 < n) (h2 : n < 9007199254740992) : intS (negS (ofS n)) = (-n, true) := by
  obtain ⟨m, hm⟩ : ∃ m : Nat, n.natAbs = m := ⟨_, rfl⟩
  obtain ⟨j1, j2, j3⟩ := small_just m (by omega)
  by_cases h : n < 0
  · have e : negS (ofS n) = (ofN m : Int) := by unfold ofS negS; rw [if_pos h, hm, if_neg (by omega)]; omega
    rw [e, intS_pos _ (by omega), if_pos ⟨j2, by omega⟩, j1]
    have : (m : Int) = -n := by omega
    rw [this]
  · have e : negS (ofS n) = 9223372036854775808 + (ofN m : Int) := by unfold ofS negS; rw [if_neg h, hm, if_pos (by omega)]; omega
    rw [e, intS_neg _ (by omega), if_pos ⟨j2, by omega⟩, j1]
    have : -(m : Int) = -n := by omega
    rw [this]
theorem of_num (n : Int) (h : inI n = true) : isNaN (ofS n) = false ∧ sv (ofS n) = if n < 0 then -(ofN n.natAbs : Int) else (ofN n.natAbs : Int) := by
  have h' : -9223372036854775808 ≤ n ∧ n ≤ 9223372036854775807 := by unfold inI at h; simpa using h
  have hb := ofN_bound n.natAbs (by omega)
  unfold isNaN ofS
  rw [decide_eq_false_iff_not]
  by_cases hn : n < 0
  · rw [if_pos hn, if_pos hn]
    refine ⟨by omega, ?_⟩
    unfold sv
    rw [if_pos (by omega)]; omega
  · rw [if_neg hn, if_neg hn]
    refine ⟨by omega, ?_⟩
    unfold sv
    rw [if_neg (by omega)]
theorem inI_iff (n : Int) : inI n = true ↔ -9223372036854775808 ≤ n ∧ n ≤ 9223372036854775807 := by unfold inI; simp
theorem of_less (a b : Int) (a1 : -9007199254740992 < a) (a2 : a < 9007199254740992) (b1 : -9007199254740992 < b) (b2 : b < 9007199254740992) : lessS (ofS a) (ofS b) = decide (a < b) ∧ eqlS (ofS a) (ofS b) = decide (a = b) := by
  obtain ⟨na, sa⟩ := of_num a ((inI_iff a).2 ⟨by omega, by omega⟩)
  obtain ⟨nb, sb⟩ := of_num b ((inI_iff b).2 ⟨by omega, by omega⟩)
  rw [less_num na nb, eql_num na nb, decide_eq_decide, decide_eq_decide, sa, sb]
  have l1 := ofN_lt (a := a.natAbs) (b := b.natAbs) (by omega) (by omega)
  have l2 := ofN_lt (a := b.natAbs) (b := a.natAbs) (by omega) (by omega)
  have p1 : 0 < a.natAbs → 0 < ofN a.natAbs := ofN_pos
  have p2 : 0 < b.natAbs → 0 < ofN b.natAbs := ofN_pos
  have z1 : a.natAbs = 0 → ofN a.natAbs = 0 := fun h => by rw [h, ofN_zero]
  have z2 : b.natAbs = 0 → ofN b.natAbs = 0 := fun h => by rw [h, ofN_zero]
  generalize ofN a.natAbs = u at *
  generalize ofN b.natAbs = v at *
  clear sa sb na nb
  constructor <;> split <;> split <;> omega
end Go.Proofs.Ytkcoabnghdlboaa.Q
