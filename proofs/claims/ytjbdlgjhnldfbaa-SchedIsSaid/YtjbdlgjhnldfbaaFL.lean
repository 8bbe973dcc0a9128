/- Floats of 64 bits by their bits: the order of two words is the order of their signed rungs. No condition. -/
import Ieee.Arith
import Derived.RowKit
import Derived.Laws.Entries
namespace Go.Proofs.YtjbdlgjhnldfbaaW.FL
open Ieee

theorem cmp_int (a b : Int) : compare a b = if a < b then .lt else if a = b then .eq else .gt := rfl
theorem cmp_same {a b a' b' : Int} (h1 : a < b ↔ a' < b') (h2 : a = b ↔ a' = b') : compare a b = compare a' b' := by
  rw [cmp_int, cmp_int]
  by_cases h : a < b
  · rw [if_pos h, if_pos (h1.1 h)]
  · rw [if_neg h, if_neg (fun k => h (h1.2 k))]
    by_cases k : a = b
    · rw [if_pos k, if_pos (h2.1 k)]
    · rw [if_neg k, if_neg (fun q => k (h2.2 q))]

theorem sw : double.signWeight = 9223372036854775808 := by decide
theorem bd : double.binade = 4503599627370496 := by decide
theorem ir : double.infRung = 9218868437227405312 := by decide
theorem lp : double.leastPlace = -1074 := by decide

/-- The magnitude of a rung, in units of the least place: digits, and how far up. -/
def mag (r : Nat) : Nat := if r < 4503599627370496 then r else 4503599627370496 + r % 4503599627370496
def up (r : Nat) : Nat := r / 4503599627370496 - 1
def M (r : Nat) : Nat := mag r * 2 ^ up r

theorem read_eq (x : Nat) : double.read x = if x % 9223372036854775808 < 9218868437227405312 then .number (x / 9223372036854775808 % 2 == 1) (mag (x % 9223372036854775808)) (-1074 + (up (x % 9223372036854775808) : Int))
    else if x % 9223372036854775808 = 9218868437227405312 then .infinity (x / 9223372036854775808 % 2 == 1) else .nan (x / 9223372036854775808 % 2 == 1) (x % 9223372036854775808 - 9218868437227405312) := by
  unfold Format.read
  simp only [sw, bd, ir, lp]
  generalize x % 9223372036854775808 = r
  by_cases h : r < 4503599627370496
  · rw [if_pos h, if_pos (by omega)]
    unfold mag up
    rw [if_pos h, Nat.div_eq_of_lt h]
    rfl
  · rw [if_neg h]
    unfold mag up
    rw [if_neg h]

theorem M_zero : M 0 = 0 := by decide
theorem M_lt {r s : Nat} (h : r < s) : M r < M s := by
  unfold M
  by_cases hs : s < 4503599627370496
  · have hr : r < 4503599627370496 := by omega
    have e1 : up r = 0 := by unfold up; rw [Nat.div_eq_of_lt hr]
    have e2 : up s = 0 := by unfold up; rw [Nat.div_eq_of_lt hs]
    rw [e1, e2]
    unfold mag
    rw [if_pos hr, if_pos hs]
    omega
  · have ms : mag s = 4503599627370496 + s % 4503599627370496 := by unfold mag; rw [if_neg hs]
    by_cases hr : r < 4503599627370496
    · have e1 : up r = 0 := by unfold up; rw [Nat.div_eq_of_lt hr]
      have mr : mag r = r := by unfold mag; rw [if_pos hr]
      rw [e1, mr, ms]
      have hp : 1 ≤ 2 ^ up s := Nat.one_le_two_pow
      have := Nat.mul_le_mul_left (4503599627370496 + s % 4503599627370496) hp
      omega
    · have mr : mag r = 4503599627370496 + r % 4503599627370496 := by unfold mag; rw [if_neg hr]
      have hr' : r % 4503599627370496 < 4503599627370496 := Nat.mod_lt _ (by decide)
      rcases Nat.lt_or_ge (r / 4503599627370496) (s / 4503599627370496) with hE | hE
      · have hu : up r + 1 ≤ up s := by unfold up; omega
        have hp : 2 ^ (up r + 1) ≤ 2 ^ up s := Nat.pow_le_pow_right (by decide) hu
        rw [mr, ms]
        have h1 : (4503599627370496 + r % 4503599627370496) * 2 ^ up r < 9007199254740992 * 2 ^ up r := Nat.mul_lt_mul_of_pos_right (by omega) (Nat.two_pow_pos _)
        have h2 : 9007199254740992 * 2 ^ up r = 4503599627370496 * 2 ^ (up r + 1) := by rw [Nat.pow_succ]; omega
        have h3 : 4503599627370496 * 2 ^ (up r + 1) ≤ 4503599627370496 * 2 ^ up s := Nat.mul_le_mul_left _ hp
        have h4 : 4503599627370496 * 2 ^ up s ≤ (4503599627370496 + s % 4503599627370496) * 2 ^ up s := Nat.mul_le_mul_right _ (by omega)
        omega
      · have hE' : r / 4503599627370496 = s / 4503599627370496 := Nat.le_antisymm (Nat.div_le_div_right (Nat.le_of_lt h)) hE
        have hu : up r = up s := by unfold up; rw [hE']
        rw [hu, mr, ms]
        exact Nat.mul_lt_mul_of_pos_right (by omega) (Nat.two_pow_pos _)

/-- A word's signed rung. -/
def svN (x : Nat) : Int := if x / 9223372036854775808 % 2 == 1 then -((x % 9223372036854775808 : Nat) : Int) else ((x % 9223372036854775808 : Nat) : Int)
def sM (x : Nat) : Int := if x / 9223372036854775808 % 2 == 1 then -((M (x % 9223372036854775808) : Nat) : Int) else ((M (x % 9223372036854775808) : Nat) : Int)

theorem sM_lt (x y : Nat) : (sM x < sM y ↔ svN x < svN y) ∧ (sM x = sM y ↔ svN x = svN y) := by
  unfold sM svN
  generalize x % 9223372036854775808 = r
  generalize y % 9223372036854775808 = s
  have h1 : r < s → M r < M s := M_lt
  have h2 : s < r → M s < M r := M_lt
  have h3 : r = s → M r = M s := fun h => by rw [h]
  have h4 : 0 < r → 0 < M r := fun h => by have := M_lt h; rw [M_zero] at this; exact this
  have h5 : 0 < s → 0 < M s := fun h => by have := M_lt h; rw [M_zero] at this; exact this
  have h6 : r = 0 → M r = 0 := fun h => by rw [h]; exact M_zero
  have h7 : s = 0 → M s = 0 := fun h => by rw [h]; exact M_zero
  generalize M r = a at *
  generalize M s = b at *
  split <;> split <;> omega

theorem signed_scale (s : Bool) (m u k : Nat) (hk : k ≤ u) : signed s m (u - k) * ((2 ^ k : Nat) : Int) = if s then -((m * 2 ^ u : Nat) : Int) else ((m * 2 ^ u : Nat) : Int) := by
  have e : m * 2 ^ u = (m * 2 ^ (u - k)) * 2 ^ k := by rw [Nat.mul_assoc, ← Nat.pow_add, Nat.sub_add_cancel hk]
  unfold signed
  rw [Nat.shiftLeft_eq, e]
  cases s
  · simp
  · simp [Int.neg_mul]

theorem cmp_scale (a b : Int) (c : Nat) (hc : 0 < c) : compare (a * (c : Int)) (b * (c : Int)) = compare a b := by
  have hc' : (0 : Int) < (c : Int) := by omega
  exact cmp_same (Int.mul_lt_mul_right hc') ⟨fun h => Int.eq_of_mul_eq_mul_right (by omega) h, fun h => by rw [h]⟩

theorem read_fin (x : Nat) (h : x % 9223372036854775808 < 9218868437227405312) : double.read x = .number (x / 9223372036854775808 % 2 == 1) (mag (x % 9223372036854775808)) (-1074 + (up (x % 9223372036854775808) : Int)) := by rw [read_eq, if_pos h]
theorem read_inf (x : Nat) (h : x % 9223372036854775808 = 9218868437227405312) : double.read x = .infinity (x / 9223372036854775808 % 2 == 1) := by rw [read_eq, if_neg (by omega), if_pos h]
theorem read_nan (x : Nat) (h : 9218868437227405312 < x % 9223372036854775808) : double.read x = .nan (x / 9223372036854775808 % 2 == 1) (x % 9223372036854775808 - 9218868437227405312) := by rw [read_eq, if_neg (by omega), if_neg (by omega)]

/-- THE ORDER OF TWO WORDS. -/
theorem order_eq (x y : Nat) : double.order x y = if 9218868437227405312 < x % 9223372036854775808 ∨ 9218868437227405312 < y % 9223372036854775808 then none else some (compare (svN x) (svN y)) := by
  unfold Format.order
  by_cases hx : 9218868437227405312 < x % 9223372036854775808
  · rw [read_nan x hx, if_pos (Or.inl hx)]
    rfl
  by_cases hy : 9218868437227405312 < y % 9223372036854775808
  · rw [read_nan y hy, if_pos (Or.inr hy)]
    cases double.read x <;> rfl
  rw [if_neg (fun h => h.elim hx hy)]
  by_cases fx : x % 9223372036854775808 < 9218868437227405312
  · by_cases fy : y % 9223372036854775808 < 9218868437227405312
    · rw [read_fin x fx, read_fin y fy]
      simp only [Datum.order]
      have key := sM_lt x y
      rw [← cmp_same key.1 key.2]
      unfold sM
      generalize (x / 9223372036854775808 % 2 == 1) = s
      generalize (y / 9223372036854775808 % 2 == 1) = t
      generalize x % 9223372036854775808 = r
      generalize y % 9223372036854775808 = q
      have e1 : (-1074 + (up r : Int) - min (-1074 + (up r : Int)) (-1074 + (up q : Int))).toNat = up r - min (up r) (up q) := by omega
      have e2 : (-1074 + (up q : Int) - min (-1074 + (up r : Int)) (-1074 + (up q : Int))).toNat = up q - min (up r) (up q) := by omega
      rw [e1, e2, ← cmp_scale _ _ (2 ^ min (up r) (up q)) (Nat.two_pow_pos _), signed_scale s _ _ _ (Nat.min_le_left _ _), signed_scale t _ _ _ (Nat.min_le_right _ _)]
      rfl
    · have ey : y % 9223372036854775808 = 9218868437227405312 := by omega
      rw [read_fin x fx, read_inf y ey]
      simp only [Datum.order]
      unfold svN
      rw [ey]
      generalize (x / 9223372036854775808 % 2 == 1) = s
      cases (y / 9223372036854775808 % 2 == 1)
      · have h : (if s = true then -((x % 9223372036854775808 : Nat) : Int) else ((x % 9223372036854775808 : Nat) : Int)) < ((9218868437227405312 : Nat) : Int) := by split <;> omega
        simp only [Bool.false_eq_true, if_false]
        rw [cmp_int, if_pos h]
      · have h : ¬ (if s = true then -((x % 9223372036854775808 : Nat) : Int) else ((x % 9223372036854775808 : Nat) : Int)) < -((9218868437227405312 : Nat) : Int) := by split <;> omega
        have h2 : ¬ (if s = true then -((x % 9223372036854775808 : Nat) : Int) else ((x % 9223372036854775808 : Nat) : Int)) = -((9218868437227405312 : Nat) : Int) := by split <;> omega
        simp only [if_true]
        rw [cmp_int, if_neg h, if_neg h2]
  · have ex : x % 9223372036854775808 = 9218868437227405312 := by omega
    by_cases fy : y % 9223372036854775808 < 9218868437227405312
    · rw [read_inf x ex, read_fin y fy]
      simp only [Datum.order]
      unfold svN
      rw [ex]
      generalize (y / 9223372036854775808 % 2 == 1) = s
      cases (x / 9223372036854775808 % 2 == 1)
      · have h : ¬ ((9218868437227405312 : Nat) : Int) < (if s = true then -((y % 9223372036854775808 : Nat) : Int) else ((y % 9223372036854775808 : Nat) : Int)) := by split <;> omega
        have h2 : ¬ ((9218868437227405312 : Nat) : Int) = (if s = true then -((y % 9223372036854775808 : Nat) : Int) else ((y % 9223372036854775808 : Nat) : Int)) := by split <;> omega
        simp only [Bool.false_eq_true, if_false]
        rw [cmp_int, if_neg h, if_neg h2]
      · have h : -((9218868437227405312 : Nat) : Int) < (if s = true then -((y % 9223372036854775808 : Nat) : Int) else ((y % 9223372036854775808 : Nat) : Int)) := by split <;> omega
        simp only [if_true]
        rw [cmp_int, if_pos h]
    · have ey : y % 9223372036854775808 = 9218868437227405312 := by omega
      rw [read_inf x ex, read_inf y ey]
      simp only [Datum.order]
      unfold svN
      rw [ex, ey]
      cases (x / 9223372036854775808 % 2 == 1) <;> cases (y / 9223372036854775808 % 2 == 1) <;> rfl
end Go.Proofs.YtjbdlgjhnldfbaaW.FL
