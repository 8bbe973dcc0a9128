/- Masks of low bits, as remainders. No condition beyond the mask's form. -/
import Derived.RowKit
import Derived.Laws.BitsLemmas
import Derived.Laws.Entries
namespace Go.Proofs.YthcikbbglpdjhaaW
theorem and_low (x : Int) (n : Nat) (hn : n ≤ 62) (m : Int) (hm : m = ((2 ^ n - 1 : Nat) : Int)) : Go.bits .and .i64 x m = x % ((2 ^ n : Nat) : Int) := by
  have hp : 2 ^ n ≤ 2 ^ 62 := Nat.pow_le_pow_right (by decide) hn
  have h0 : 0 < 2 ^ n := Nat.two_pow_pos n
  have e : Go.bits .and .i64 x m = IntKind.i64.wrap (((BitVec.ofInt 64 x) &&& (BitVec.ofInt 64 m)).toNat : Int) := rfl
  have h1 : (BitVec.ofInt 64 m).toNat = 2 ^ n - 1 := by
    rw [BitVec.toNat_ofInt, hm]
    have h2 : (((2 ^ n - 1 : Nat) : Int) % ((2 ^ 64 : Nat) : Int)) = ((2 ^ n - 1 : Nat) : Int) := Int.emod_eq_of_lt (by omega) (by omega)
    rw [h2, Int.toNat_natCast]
  have h3 : (((BitVec.ofInt 64 x).toNat : Nat) : Int) = x % ((2 ^ 64 : Nat) : Int) := by
    rw [BitVec.toNat_ofInt, Int.toNat_of_nonneg (Int.emod_nonneg _ (by decide))]
  rw [e, BitVec.toNat_and, h1, Nat.and_two_pow_sub_one_eq_mod, Int.natCast_emod, h3, Int.emod_emod_of_dvd x (by
    rw [Int.natCast_dvd_natCast]; exact Nat.pow_dvd_pow 2 (by omega))]
  have h4 : 0 ≤ x % ((2 ^ n : Nat) : Int) := Int.emod_nonneg _ (by omega)
  have h5 : x % ((2 ^ n : Nat) : Int) < ((2 ^ n : Nat) : Int) := Int.emod_lt_of_pos _ (by omega)
  rw [IntKind.wrap_i64]
  omega
theorem and_65535 (x : Int) : Go.bits .and .i64 x 65535 = x % 65536 := and_low x 16 (by decide) _ rfl
end Go.Proofs.YthcikbbglpdjhaaW
