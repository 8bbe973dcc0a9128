/- The words of a float's comparisons, by bits. No condition. -/
import Derived.Test.YtjbdlgjhnldfbaaFM
import Derived.Laws.Externs
namespace Go.Proofs.YtjbdlgjhnldfbaaW.FL
open Ieee

def inU (b : Int) : Bool := decide (0 ≤ b ∧ b ≤ 18446744073709551615)
theorem inU_iff (b : Int) : inU b = true ↔ 0 ≤ b ∧ b ≤ 18446744073709551615 := by unfold inU; simp
/-- A word's signed rung; is it a NaN's? -/
def sv (b : Int) : Int := if 9223372036854775808 ≤ b then -(b - 9223372036854775808) else b
def isNaN (b : Int) : Bool := decide (9218868437227405312 < b % 9223372036854775808)
def lessS (a b : Int) : Bool := !isNaN a && !isNaN b && decide (sv a < sv b)
def eqlS (a b : Int) : Bool := !isNaN a && !isNaN b && decide (sv a = sv b)

theorem sv_nat (X : Nat) (h : X < 18446744073709551616) : svN X = sv (X : Int) := by
  unfold svN sv
  by_cases h1 : X / 9223372036854775808 % 2 = 1
  · have : (X / 9223372036854775808 % 2 == 1) = true := by simpa using h1
    rw [this, if_pos rfl, if_pos (by omega)]; omega
  · have : (X / 9223372036854775808 % 2 == 1) = false := by simpa using h1
    rw [this, if_neg (by decide), if_neg (by omega)]; omega
theorem nan_nat (X : Nat) : isNaN (X : Int) = decide (9218868437227405312 < X % 9223372036854775808) := by
  unfold isNaN
  congr 1
  apply propext
  omega

theorem ord_form (X Y : Nat) (hX : X < 18446744073709551616) (hY : Y < 18446744073709551616) :
    FloatKind.f64.format.order X Y = if isNaN (X : Int) || isNaN (Y : Int) then none else some (compare (sv (X : Int)) (sv (Y : Int))) := by
  show double.order X Y = _
  rw [order_eq, nan_nat, nan_nat, sv_nat X hX, sv_nat Y hY]
  by_cases h1 : 9218868437227405312 < X % 9223372036854775808 <;> by_cases h2 : 9218868437227405312 < Y % 9223372036854775808 <;> simp [h1, h2]
section
variable (X Y : Nat) (hX : X < 18446744073709551616) (hY : Y < 18446744073709551616)
include hX hY
theorem ord_lt : (FloatKind.f64.format.order X Y == some .lt) = lessS X Y := by
  rw [ord_form X Y hX hY]
  unfold lessS
  cases isNaN (X : Int) <;> cases isNaN (Y : Int) <;> simp [cmp_int]
  split
  · simp_all
  · split <;> simp_all
theorem ord_eq : (FloatKind.f64.format.order X Y == some .eq) = eqlS X Y := by
  rw [ord_form X Y hX hY]
  unfold eqlS
  cases isNaN (X : Int) <;> cases isNaN (Y : Int) <;> simp [cmp_int]
  split
  · simp_all; omega
  · split <;> simp_all
theorem ord_gt : (FloatKind.f64.format.order X Y == some .gt) = lessS Y X := by
  rw [ord_form X Y hX hY]
  unfold lessS
  cases isNaN (X : Int) <;> cases isNaN (Y : Int) <;> simp [cmp_int]
  split
  · simp_all; omega
  · split
    · simp_all
    · simp_all; omega
theorem ord_ne : (FloatKind.f64.format.order X Y != some .eq) = !eqlS X Y := by rw [← ord_eq X Y hX hY]; rfl
end

theorem andNot_sign (X : Nat) (h : X < 18446744073709551616) : Go.bits .andNot .u64 (X : Int) 9223372036854775808 = ((X % 9223372036854775808 : Nat) : Int) := by
  have e : Go.bits .andNot .u64 (X : Int) 9223372036854775808 = IntKind.u64.wrap (((BitVec.ofInt 64 (X : Int)) &&& ~~~ (BitVec.ofInt 64 9223372036854775808)).toNat : Int) := rfl
  have h1 : (~~~ (BitVec.ofInt 64 9223372036854775808)).toNat = 2 ^ 63 - 1 := by decide
  have h2 : (BitVec.ofInt 64 (X : Int)).toNat = X := by
    rw [BitVec.toNat_ofInt]; omega
  rw [e, BitVec.toNat_and, h1, h2, Nat.and_two_pow_sub_one_eq_mod]
  have h3 : ∀ v : Int, IntKind.u64.wrap v = v % 18446744073709551616 := fun _ => rfl
  rw [h3, show (2 : Nat) ^ 63 = 9223372036854775808 by decide]
  omega
theorem ofInt_nat (X : Nat) (h : X < 18446744073709551616) : (BitVec.ofInt 64 (X : Int)).toNat = X := by rw [BitVec.toNat_ofInt]; omega
theorem wrap_u64 (v : Int) : IntKind.u64.wrap v = v % 18446744073709551616 := rfl
theorem p63 : (2 : Nat) ^ 63 = 9223372036854775808 := by decide
theorem and_sign (X : Nat) (h : X < 18446744073709551616) : Go.bits .and .u64 (X : Int) 9223372036854775808 = if X < 9223372036854775808 then 0 else 9223372036854775808 := by
  have e : Go.bits .and .u64 (X : Int) 9223372036854775808 = IntKind.u64.wrap (((BitVec.ofInt 64 (X : Int)) &&& (BitVec.ofInt 64 9223372036854775808)).toNat : Int) := rfl
  have h1 : (BitVec.ofInt 64 9223372036854775808).toNat = 2 ^ 63 := by decide
  rw [e, BitVec.toNat_and, h1, ofInt_nat X h, wrap_u64]
  by_cases h2 : X < 9223372036854775808
  · have hX : X < 2 ^ 63 := by rw [p63]; exact h2
    have h3 : X &&& 2 ^ 63 = 0 := by
      apply Nat.eq_of_testBit_eq
      intro i
      rw [Nat.testBit_and, Nat.testBit_two_pow, Nat.zero_testBit]
      by_cases hi : 63 = i
      · subst hi
        rw [Nat.testBit_lt_two_pow hX]; rfl
      · simp [hi]
    rw [h3, if_pos h2]; rfl
  · have h6 : X = 2 ^ 63 + (X - 2 ^ 63) := by rw [p63]; omega
    have hY : X - 2 ^ 63 < 2 ^ 63 := by rw [p63]; omega
    have h3 : X &&& 2 ^ 63 = 2 ^ 63 := by
      apply Nat.eq_of_testBit_eq
      intro i
      rw [Nat.testBit_and, Nat.testBit_two_pow]
      by_cases hi : 63 = i
      · subst hi
        rw [h6, Nat.testBit_two_pow_add_eq, Nat.testBit_lt_two_pow hY]; rfl
      · simp [hi]
    rw [h3, p63, if_neg h2]; rfl
theorem or_sign (X : Nat) (h : X < 9223372036854775808) : Go.bits .or .u64 (X : Int) 9223372036854775808 = (X : Int) + 9223372036854775808 := by
  have e : Go.bits .or .u64 (X : Int) 9223372036854775808 = IntKind.u64.wrap (((BitVec.ofInt 64 (X : Int)) ||| (BitVec.ofInt 64 9223372036854775808)).toNat : Int) := rfl
  have h1 : (BitVec.ofInt 64 9223372036854775808).toNat = 2 ^ 63 := by decide
  have h2 := Nat.two_pow_add_eq_or_of_lt (i := 63) (b := X) (by rw [p63]; exact h) 1
  rw [e, BitVec.toNat_or, h1, ofInt_nat X (by omega), Nat.or_comm, ← Nat.mul_one (2 ^ 63), ← h2, wrap_u64, p63]
  omega
theorem xor_max (X : Nat) (h : X < 18446744073709551616) : Go.bits .xor .u64 IntKind.u64.max (X : Int) = 18446744073709551615 - (X : Int) := by
  have e : Go.bits .xor .u64 IntKind.u64.max (X : Int) = IntKind.u64.wrap (((BitVec.ofInt 64 IntKind.u64.max) ^^^ (BitVec.ofInt 64 (X : Int))).toNat : Int) := rfl
  have h1 : BitVec.ofInt 64 IntKind.u64.max = BitVec.allOnes 64 := by decide
  rw [e, h1, BitVec.allOnes_xor, BitVec.toNat_not, ofInt_nat X h, wrap_u64]
  have h2 : (2 : Nat) ^ 64 = 18446744073709551616 := by decide
  rw [h2]
  omega
end Go.Proofs.YtjbdlgjhnldfbaaW.FL
