/- Whole numbers as floats of 64 bits, and back: by bits. No condition. -/
import Derived.Test.YtjbdlgjhnldfbaaFL
import GoSem.Core.Float
import Derived.Laws.FloatArith
namespace Go.Proofs.YtjbdlgjhnldfbaaW.FL
open Ieee

def cutE (m d : Nat) : Nat := m / 2 ^ d + (if 2 ^ d < 2 * (m % 2 ^ d) ∨ (2 ^ d = 2 * (m % 2 ^ d) ∧ m / 2 ^ d % 2 = 1) then 1 else 0)
/-- The rung of a whole number. -/
def ofN (m : Nat) : Nat := if m = 0 then 0 else if m.log2 ≤ 52 then (m.log2 + 1022) * 4503599627370496 + m * 2 ^ (52 - m.log2) else (m.log2 + 1022) * 4503599627370496 + cutE m (m.log2 - 52)

theorem cut_zero (s : Bool) (n : Nat) : Toward.even.cut s n 0 = n := by
  unfold Toward.cut
  simp
  omega
theorem cut_even (s : Bool) (n d : Nat) (h : d ≤ n.log2 + 2) : Toward.even.cut s n d = cutE n d := by
  unfold Toward.cut cutE
  simp only [Nat.min_eq_left h, Nat.one_shiftLeft]
  generalize 2 ^ d = g
  congr 1
  by_cases h1 : g < 2 * (n % g)
  · simp [h1]
  · by_cases h2 : g = 2 * (n % g)
    · by_cases h3 : n / g % 2 = 1
      · simp [← h2, h3]
      · simp [← h2, h3]
    · have h2' : (g == 2 * (n % g)) = false := by simpa using h2
      simp [h1, h2, h2']

theorem log2_bounds {m : Nat} (h : m ≠ 0) : 2 ^ m.log2 ≤ m ∧ m < 2 ^ (m.log2 + 1) := ⟨Nat.log2_self_le h, Nat.lt_log2_self⟩

theorem cutE_le (m d : Nat) (k : Nat) (h : m < 2 ^ (k + d)) : cutE m d ≤ 2 ^ k := by
  unfold cutE
  have h1 : m / 2 ^ d < 2 ^ k := by
    rw [Nat.div_lt_iff_lt_mul (Nat.two_pow_pos d), ← Nat.pow_add]
    exact h
  split <;> omega

theorem p53 : 2 ^ 53 = 9007199254740992 := by decide
theorem p52 : 2 ^ 52 = 4503599627370496 := by decide
theorem ofN_le (m : Nat) (h : m.log2 ≤ 63) : ofN m ≤ 1088 * 4503599627370496 := by
  unfold ofN
  split
  · omega
  · rename_i h0
    have hb := log2_bounds h0
    split
    · rename_i h1
      have h2 : m * 2 ^ (52 - m.log2) < 2 ^ (m.log2 + 1) * 2 ^ (52 - m.log2) := Nat.mul_lt_mul_of_pos_right hb.2 (Nat.two_pow_pos _)
      rw [← Nat.pow_add, show m.log2 + 1 + (52 - m.log2) = 53 by omega, p53] at h2
      generalize m * 2 ^ (52 - m.log2) = K at h2 ⊢
      clear hb h
      omega
    · rename_i h1
      have h2 := cutE_le m (m.log2 - 52) 53 (by rw [show 53 + (m.log2 - 52) = m.log2 + 1 by omega]; exact hb.2)
      rw [p53] at h2
      generalize cutE m (m.log2 - 52) = K at h2 ⊢
      clear hb h1
      omega

theorem nearest_eq (s : Bool) (m : Nat) (h : m.log2 ≤ 63) : double.nearest s m 0 = double.word s (ofN m) := by
  unfold Format.nearest
  have hle := ofN_le m h
  by_cases h0 : m = 0
  · rw [if_pos h0]
    unfold ofN
    rw [if_pos h0]
  · rw [if_neg h0]
    simp only [bd, ir, lp, show double.fractionBits = 52 from rfl]
    unfold ofN at hle ⊢
    rw [if_neg h0] at hle ⊢
    by_cases h1 : m.log2 ≤ 52
    · rw [if_pos h1] at hle ⊢
      have e1 : max (0 + (m.log2 : Int) - (52 : Nat)) (-1074) = (m.log2 : Int) - 52 := by omega
      rw [e1]
      have e2 : (0 - ((m.log2 : Int) - 52)).toNat = 52 - m.log2 := by omega
      have e3 : ((m.log2 : Int) - 52 - 0).toNat = 0 := by omega
      have e4 : ((m.log2 : Int) - 52 - -1074).toNat = m.log2 + 1022 := by omega
      rw [e2, e3, e4, cut_zero, Nat.shiftLeft_eq, Nat.min_eq_left (by omega)]
    · rw [if_neg h1] at hle ⊢
      have e1 : max (0 + (m.log2 : Int) - (52 : Nat)) (-1074) = (m.log2 : Int) - 52 := by omega
      rw [e1]
      have e2 : (0 - ((m.log2 : Int) - 52)).toNat = 0 := by omega
      have e3 : ((m.log2 : Int) - 52 - 0).toNat = m.log2 - 52 := by omega
      have e4 : ((m.log2 : Int) - 52 - -1074).toNat = m.log2 + 1022 := by omega
      rw [e2, e3, e4, Nat.shiftLeft_zero, cut_even s m _ (by omega), Nat.min_eq_left (by omega)]

end Go.Proofs.YtjbdlgjhnldfbaaW.FL
