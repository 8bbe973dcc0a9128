/- A float of 64 bits cut to a whole number, by bits. No condition. -/
import Derived.Test.YtjbdlgjhnldfbaaFM
namespace Go.Proofs.YtjbdlgjhnldfbaaW.FL
open Ieee

theorem cutz_zero (s : Bool) (n : Nat) : Toward.zero.cut s n 0 = n := by
  unfold Toward.cut
  simp
theorem cutz (s : Bool) (n d : Nat) : Toward.zero.cut s n d = n / 2 ^ min d (n.log2 + 2) := by
  unfold Toward.cut
  simp only [Nat.one_shiftLeft]
  rfl

theorem log2_mul (m i : Nat) (h1 : 4503599627370496 ≤ m) (h2 : m < 9007199254740992) : (m * 2 ^ i).log2 = 52 + i := by
  have h0 : m * 2 ^ i ≠ 0 := Nat.mul_ne_zero (by omega) (Nat.pos_iff_ne_zero.1 (Nat.two_pow_pos i))
  rw [Nat.log2_eq_iff h0]
  constructor
  · rw [Nat.pow_add, p52]; exact Nat.mul_le_mul_right _ h1
  · rw [show 52 + i + 1 = 53 + i by omega, Nat.pow_add, p53]; exact Nat.mul_lt_mul_of_pos_right h2 (Nat.two_pow_pos i)

theorem nearest_exact (s : Bool) (m i : Nat) (h1 : 4503599627370496 ≤ m) (h2 : m < 9007199254740992) (hi : i ≤ 971) : double.nearest s (m * 2 ^ i) 0 = double.word s ((i + 1074) * 4503599627370496 + m) := by
  have h0 : m * 2 ^ i ≠ 0 := Nat.mul_ne_zero (by omega) (Nat.pos_iff_ne_zero.1 (Nat.two_pow_pos i))
  have hl := log2_mul m i h1 h2
  unfold Format.nearest
  rw [if_neg h0]
  simp only [bd, ir, lp, hl, show double.fractionBits = 52 from rfl]
  have e1 : max (0 + ((52 + i : Nat) : Int) - (52 : Nat)) (-1074) = (i : Int) := by omega
  rw [e1]
  have e2 : (0 - (i : Int)).toNat = 0 := by omega
  have e3 : ((i : Int) - 0).toNat = i := by omega
  have e4 : ((i : Int) - -1074).toNat = i + 1074 := by omega
  have e5 : cutE (m * 2 ^ i) i = m := by
    unfold cutE
    have hp := Nat.two_pow_pos i
    have hn : ¬ (2 ^ i < 2 * 0 ∨ (2 ^ i = 2 * 0 ∧ m % 2 = 1)) := by
      generalize 2 ^ i = g at hp ⊢
      omega
    rw [Nat.mul_div_cancel _ hp, Nat.mul_mod_left, if_neg hn, Nat.add_zero]
  rw [e2, e3, e4, Nat.shiftLeft_zero, cut_even s _ _ (by rw [hl]; omega), e5, Nat.min_eq_left (by omega)]

/-- What a cut of the word x comes to. -/
def truncN (x : Nat) : Nat := double.write ((double.read x).integral .zero)
theorem word_self (x : Nat) (hx : x < 18446744073709551616) : double.word (x / 9223372036854775808 % 2 == 1) (x % 9223372036854775808) = x := by
  unfold Format.word
  rw [sw]
  by_cases h : x / 9223372036854775808 % 2 = 1
  · have : (x / 9223372036854775808 % 2 == 1) = true := by simpa using h
    rw [this, if_pos rfl]; omega
  · have : (x / 9223372036854775808 % 2 == 1) = false := by simpa using h
    rw [this, if_neg (by decide)]; omega

theorem trunc_great (x : Nat) (hx : x < 18446744073709551616) (h1 : 4841369599423283200 ≤ x % 9223372036854775808) (h2 : x % 9223372036854775808 ≤ 9218868437227405312) : truncN x = x := by
  unfold truncN
  by_cases hf : x % 9223372036854775808 < 9218868437227405312
  · rw [read_fin x hf]
    have hw := word_self x hx
    generalize (x / 9223372036854775808 % 2 == 1) = s at *
    generalize x % 9223372036854775808 = r at *
    have hm : mag r = 4503599627370496 + r % 4503599627370496 := by unfold mag; rw [if_neg (by omega)]
    have hu : up r = r / 4503599627370496 - 1 := rfl
    have i1 : (-1074 + (up r : Int)).toNat = r / 4503599627370496 - 1075 := by rw [hu]; omega
    have i2 : (-(-1074 + (up r : Int))).toNat = 0 := by rw [hu]; omega
    simp only [Datum.integral, i1, i2, cutz_zero, Format.write, Nat.shiftLeft_eq]
    rw [nearest_exact s (mag r) _ (by rw [hm]; omega) (by rw [hm]; omega) (by omega), hm]
    rw [← hw]
    congr 1
    omega
  · have he : x % 9223372036854775808 = 9218868437227405312 := by omega
    have hw := word_self x hx
    rw [read_inf x he]
    simp only [Datum.integral, Format.write, ir]
    rw [he] at hw
    exact hw

def wholeR (r : Nat) : Bool := decide (r = 0) || (decide (4607182418800017408 ≤ r) && (decide (4841369599423283200 ≤ r) || decide ((4503599627370496 + r % 4503599627370496) % 2 ^ (1075 - r / 4503599627370496) = 0)))
def absInt (r : Nat) : Nat := if r < 4607182418800017408 then 0 else if r < 4841369599423283200 then (4503599627370496 + r % 4503599627370496) / 2 ^ (1075 - r / 4503599627370496) else (4503599627370496 + r % 4503599627370496) * 2 ^ (r / 4503599627370496 - 1075)

theorem sv_word (s : Bool) (q : Nat) (h : q < 9223372036854775808) : svN (double.word s q) = if s then -(q : Int) else (q : Int) := by
  unfold svN Format.word
  rw [sw]
  cases s
  · simp only [Bool.false_eq_true, if_false]
    rw [Nat.mod_eq_of_lt h, Nat.div_eq_of_lt h]
    rfl
  · simp only [if_true]
    have e1 : (9223372036854775808 + q) % 9223372036854775808 = q := by omega
    have e2 : (9223372036854775808 + q) / 9223372036854775808 = 1 := by omega
    rw [e1, e2]
    rfl
theorem rung_word (s : Bool) (q : Nat) (h : q < 9223372036854775808) : double.word s q % 9223372036854775808 = q := by
  unfold Format.word
  rw [sw]
  split <;> omega

/-- Below the great ones: the whole part, and whether it is all. -/
theorem trunc_small (x : Nat) (h1 : x % 9223372036854775808 < 4841369599423283200) : ∃ q, truncN x = double.word (x / 9223372036854775808 % 2 == 1) q ∧ q < 4841369599423283200 + 4503599627370496 ∧ (q = x % 9223372036854775808 ↔ wholeR (x % 9223372036854775808) = true) ∧ (double.read x).integral .zero = .number (x / 9223372036854775808 % 2 == 1) (absInt (x % 9223372036854775808)) 0 := by
  unfold truncN
  rw [read_fin x (by omega)]
  generalize (x / 9223372036854775808 % 2 == 1) = s
  generalize x % 9223372036854775808 = r at *
  have hu : up r = r / 4503599627370496 - 1 := rfl
  have i1 : (-1074 + (up r : Int)).toNat = 0 := by rw [hu]; omega
  have i2 : (-(-1074 + (up r : Int))).toNat = 1074 - up r := by rw [hu]; omega
  simp only [Datum.integral, i1, i2, Nat.shiftLeft_zero, cutz, Format.write]
  by_cases hs : r < 4607182418800017408
  · have hz : mag r / 2 ^ min (1074 - up r) ((mag r).log2 + 2) = 0 := by
      rw [Nat.div_eq_zero_iff]
      right
      have hm : mag r < 9007199254740992 := by unfold mag; split <;> omega
      by_cases h0 : mag r = 0
      · rw [h0]; exact Nat.two_pow_pos _
      · have hb := log2_bounds h0
        have hL : (mag r).log2 ≤ 52 := by
          have : 2 ^ (mag r).log2 < 2 ^ 53 := by rw [p53]; exact Nat.lt_of_le_of_lt hb.1 hm
          have := (Nat.pow_lt_pow_iff_right (by decide : 1 < 2)).1 this
          omega
        have hd : 53 ≤ 1074 - up r := by rw [hu]; omega
        exact Nat.lt_of_lt_of_le hb.2 (Nat.pow_le_pow_right (by decide) (by omega))
    have ha : absInt r = 0 := by unfold absInt; rw [if_pos hs]
    rw [hz, ha]
    refine ⟨0, ?_, by omega, ?_, rfl⟩
    · rw [nearest_eq s 0 (by decide)]; rfl
    · have hn : ¬ 4607182418800017408 ≤ r := by omega
      unfold wholeR
      simp only [Bool.or_eq_true, Bool.and_eq_true, decide_eq_true_eq]
      omega
  · have hm : mag r = 4503599627370496 + r % 4503599627370496 := by unfold mag; rw [if_neg (by omega)]
    have hlog : (mag r).log2 = 52 := by
      have := log2_mul (mag r) 0 (by rw [hm]; omega) (by rw [hm]; omega)
      simpa using this
    have hd : min (1074 - up r) ((mag r).log2 + 2) = 1075 - r / 4503599627370496 := by rw [hlog, hu]; omega
    have ha : absInt r = mag r / 2 ^ (1075 - r / 4503599627370496) := by unfold absInt; rw [if_neg hs, if_pos h1, hm]
    rw [hd, ← ha]
    have hdr : 1 ≤ 1075 - r / 4503599627370496 ∧ 1075 - r / 4503599627370496 ≤ 52 := by omega
    have ht1 : absInt r ≠ 0 := by
      rw [ha]
      have : 2 ^ (1075 - r / 4503599627370496) ≤ mag r := by
        refine Nat.le_trans (Nat.pow_le_pow_right (by decide) hdr.2) ?_
        rw [p52, hm]; omega
      have := Nat.div_pos this (Nat.two_pow_pos _)
      omega
    have ht2 : absInt r < 9007199254740992 := by
      rw [ha]
      exact Nat.lt_of_le_of_lt (Nat.div_le_self _ _) (by rw [hm]; omega)
    have hlt : (absInt r).log2 ≤ 52 := by
      have : 2 ^ (absInt r).log2 < 2 ^ 53 := by rw [p53]; exact Nat.lt_of_le_of_lt (log2_bounds ht1).1 ht2
      have := (Nat.pow_lt_pow_iff_right (by decide : 1 < 2)).1 this
      omega
    obtain ⟨hM, hmod⟩ := M_ofN (absInt r) ht1 ht2
    refine ⟨ofN (absInt r), nearest_eq s _ (by omega), ?_, ?_, rfl⟩
    · have hb := log2_bounds ht1
      have h2 : absInt r * 2 ^ (52 - (absInt r).log2) < 2 ^ ((absInt r).log2 + 1) * 2 ^ (52 - (absInt r).log2) := Nat.mul_lt_mul_of_pos_right hb.2 (Nat.two_pow_pos _)
      rw [← Nat.pow_add, show (absInt r).log2 + 1 + (52 - (absInt r).log2) = 53 by omega, p53] at h2
      unfold ofN
      rw [if_neg ht1, if_pos hlt]
      generalize absInt r * 2 ^ (52 - (absInt r).log2) = K at h2 ⊢
      clear hM hmod hb ha hd i1 i2
      omega
    · have hMr : M r = mag r * 2 ^ up r := rfl
      have hsum : 2 ^ 1074 = 2 ^ (1075 - r / 4503599627370496) * 2 ^ up r := by rw [← Nat.pow_add]; congr 1; rw [hu]; omega
      have key : (ofN (absInt r) = r) ↔ mag r = absInt r * 2 ^ (1075 - r / 4503599627370496) := by
        constructor
        · intro h
          rw [h] at hM
          rw [hMr, hsum, ← Nat.mul_assoc] at hM
          exact Nat.eq_of_mul_eq_mul_right (Nat.two_pow_pos _) hM
        · intro h
          have : M (ofN (absInt r)) = M r := by rw [hM, hMr, h, hsum, Nat.mul_assoc]
          rcases Nat.lt_trichotomy (ofN (absInt r)) r with hl | hl | hl
          · have := M_lt hl; omega
          · exact hl
          · have := M_lt hl; omega
      rw [key]
      have hdm := Nat.div_add_mod (mag r) (2 ^ (1075 - r / 4503599627370496))
      rw [← ha] at hdm
      have e : wholeR r = decide (mag r % 2 ^ (1075 - r / 4503599627370496) = 0) := by
        unfold wholeR
        rw [← hm, decide_eq_false (p := r = 0) (by omega), decide_eq_true (p := 4607182418800017408 ≤ r) (by omega), decide_eq_false (p := 4841369599423283200 ≤ r) (by omega)]
        rfl
      rw [e, decide_eq_true_eq]
      rw [Nat.mul_comm] at hdm
      constructor
      · intro h; omega
      · intro h; omega
end Go.Proofs.YtjbdlgjhnldfbaaW.FL
