/- Masks of low bits, as remainders. No condition beyond the mask's form. -/
import Derived.RowKit
import Derived.Laws.BitsLemmas
import Derived.Laws.Entries
namespace Go.Proofs.YtajghkmjgedikaaW
theorem and_low (x : Int) (n : Nat) (hn : n ≤ 62) (m : Int) (hm : m = ((2 ^ n - 1 : Nat) : Int)) : Go.bits .and .i64 x m = x % ((2 ^ n : Nat) : Int) := by
  have hp : 2 ^ n ≤ 2 ^ 62 := Nat.pow_le_pow_right (by decide) hn
  have h0 : 0 < 2 ^ n := Nat.two_pow_pos n
  have e : Go.bits .and .i64 x m = IntKind.i64.wrap (((BitVec.ofInt 64 x) &&& (BitVec.ofInt 64 m)).toNat : Int) := rfl
  have h1 : (BitVec.ofInt 64 m).toNat = 2 ^ n - 1 := by
    rw [BitVec.toNat_ofInt, hm]
    have h2 : (((2 ^ n - 1 : Nat) : Int) % ((2 ^ 64 : Nat) : Int)) = ((2 ^ n - 1 : Nat) : Int) := Int.emod_eq_of_lt (by omega) (by omega)
    rw [h2, Int.toNat_natCast]
  have h3 : (((BitVec.ofInt 64 x).toNat : Nat) : Int) = x % ((2 ^ 64 : Nat) : Int) := by
    rw [BitVec.toNat_ofInt, Int.toNat_of_nonneg (Int.emod_nonneg _ (by decide))]
  rw [e, BitVec.toNat_and, h1, Nat.and_two_pow_sub_one_eq_mod, Int.natCast_emod, h3, Int.emod_emod_of_dvd x (by
    rw [Int.natCast_dvd_natCast]; exact Nat.pow_dvd_pow 2 (by omega))]
  have h4 : 0 ≤ x % ((2 ^ n : Nat) : Int) := Int.emod_nonneg _ (by omega)
  have h5 : x % ((2 ^ n : Nat) : Int) < ((2 ^ n : Nat) : Int) := Int.emod_lt_of_pos _ (by omega)
  rw [IntKind.wrap_i64]
  omega
theorem and_1 (x : Int) : Go.bits .and .i64 x 1 = x % 2 := and_low x 1 (by decide) _ rfl
theorem and_3 (x : Int) : Go.bits .and .i64 x 3 = x % 4 := and_low x 2 (by decide) _ rfl
theorem and_7 (x : Int) : Go.bits .and .i64 x 7 = x % 8 := and_low x 3 (by decide) _ rfl
theorem and_15 (x : Int) : Go.bits .and .i64 x 15 = x % 16 := and_low x 4 (by decide) _ rfl
theorem and_31 (x : Int) : Go.bits .and .i64 x 31 = x % 32 := and_low x 5 (by decide) _ rfl
theorem and_63 (x : Int) : Go.bits .and .i64 x 63 = x % 64 := and_low x 6 (by decide) _ rfl
theorem and_255 (x : Int) : Go.bits .and .i64 x 255 = x % 256 := and_low x 8 (by decide) _ rfl
theorem and_65535 (x : Int) : Go.bits .and .i64 x 65535 = x % 65536 := and_low x 16 (by decide) _ rfl
theorem and_4294967295 (x : Int) : Go.bits .and .i64 x 4294967295 = x % 4294967296 := and_low x 32 (by decide) _ rfl
theorem and_9007199254740991 (x : Int) : Go.bits .and .i64 x 9007199254740991 = x % 9007199254740992 := and_low x 53 (by decide) _ rfl
end Go.Proofs.YtajghkmjgedikaaW
