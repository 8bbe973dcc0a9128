/- Several texts of one claim, one behind the other. No condition beyond what each says. -/
import Derived.RowKit
import Derived.Laws.BitsLemmas
import Derived.Laws.Entries
import Derived.Test.YtdnkbmjlcdddcaaYP
import Derived.Test.YtdnkbmjlcdddcaaQW
/- Masks of low bits, as remainders. No condition beyond the mask's form. -/
namespace Go.Proofs.YtdnkbmjlcdddcaaW
theorem and_low (x : Int) (n : Nat) (hn : n ≤ 62) (m : Int) (hm : m = ((2 ^ n - 1 : Nat) : Int)) : Go.bits .and .i64 x m = x % ((2 ^ n : Nat) : Int) := by
  have hp : 2 ^ n ≤ 2 ^ 62 := Nat.pow_le_pow_right (by decide) hn
  have h0 : 0 < 2 ^ n := Nat.two_pow_pos n
  have e : Go.bits .and .i64 x m = IntKind.i64.wrap (((BitVec.ofInt 64 x) &&& (BitVec.ofInt 64 m)).toNat : Int) := rfl
  have h1 : (BitVec.ofInt 64 m).toNat = 2 ^ n - 1 := by
    rw [BitVec.toNat_ofInt, hm]
    have h2 : (((2 ^ n - 1 : Nat) : Int) % ((2 ^ 64 : Nat) : Int)) = ((2 ^ n - 1 : Nat) : Int) := Int.emod_eq_of_lt (by omega) (by omega)
    rw [h2, Int.toNat_natCast]
  have h3 : (((BitVec.ofInt 64 x).toNat : Nat) : Int) = x % ((2 ^ 64 : Nat) : Int) := by
    rw [BitVec.toNat_ofInt, Int.toNat_of_nonneg (Int.emod_nonneg _ (by decide))]
  rw [e, BitVec.toNat_and, h1, Nat.and_two_pow_sub_one_eq_mod, Int.natCast_emod, h3, Int.emod_emod_of_dvd x (by
    rw [Int.natCast_dvd_natCast]; exact Nat.pow_dvd_pow 2 (by omega))]
  have h4 : 0 ≤ x % ((2 ^ n : Nat) : Int) := Int.emod_nonneg _ (by omega)
  have h5 : x % ((2 ^ n : Nat) : Int) < ((2 ^ n : Nat) : Int) := Int.emod_lt_of_pos _ (by omega)
  rw [IntKind.wrap_i64]
  omega
theorem and_31 (x : Int) : Go.bits .and .i64 x 31 = x % 32 := and_low x 5 (by decide) _ rfl
end Go.Proofs.YtdnkbmjlcdddcaaW
/- What awake answers, and small words about the counters. No condition. -/
namespace Go.Proofs.Ytdnkbmjlcdddcaa.Q
open Go.RowKit Go.Proofs.YtdnkbmjlcdddcaaW Go.Proofs.YtdnkbmjlcdddcaaW.PrintWords
set_option linter.unusedVariables false
set_option linter.unusedSimpArgs false
theorem LeO.up {α : Type} {g : Nat → Option α} (h : ∀ k, LeO (g k) (g (k + 1))) {K : Nat} {r : α} (hr : g K = some r) : ∀ n, g (K + n) = some r
  | 0 => hr
  | n + 1 => h _ _ (LeO.up h hr n)
theorem Evals.mono {α : Type} {g : Nat → Option α} (h : ∀ k, LeO (g k) (g (k + 1))) {K : Nat} {r : α} (hr : g K = some r) : Evals g r :=
  ⟨K, fun k hk => by have := LeO.up h hr (k - K); rwa [show K + (k - K) = k by omega] at this⟩
set_option maxRecDepth 100000 in
theorem awake30 : heronrylaw13_awake.f 40 = some true := by kernel_rfl
theorem awake_ev : Evals heronrylaw13_awake.f true := Evals.mono heronrylaw13_awake.mono awake30
end Go.Proofs.Ytdnkbmjlcdddcaa.Q
