import Derived.Test.YtjbdlgjhnldfbaaQ0
import Derived.Test.YtjbdlgjhnldfbaaFS
import Derived.Laws.Externs
import Derived.WalkLawsBesides
import Derived.Lib.Hide
namespace Go.Proofs.Ytjbdlgjhnldfbaa.Q
open Go.RowKit Go.Proofs.YtjbdlgjhnldfbaaW Go.Proofs.YtjbdlgjhnldfbaaW.PrintWords Go.Proofs.YtjbdlgjhnldfbaaW.PrintLast Go.Proofs.YtjbdlgjhnldfbaaW.PrintMore
open FL
set_option linter.unusedVariables false
set_option linter.unusedSimpArgs false

theorem from_bits (n : Int) (w : World) : (callFunc 45 #[.int .u64 n]).run Try.prog w = .ok (.value (.float .f64 n.toNat)) w := by
  rw [run_callFunc_extern Try.func45 (by kernel_rfl) (by kernel_rfl) (by kernel_rfl) (e := Extern.MathFloatBits.float64frombits) (by kernel_rfl)]
  rfl
theorem to_bits (n : Nat) (w : World) : (callFunc 41 #[.float .f64 n]).run Try.prog w = .ok (.value (.int .u64 (n : Int))) w := by
  rw [run_callFunc_extern Try.func41 (by kernel_rfl) (by kernel_rfl) (by kernel_rfl) (e := Extern.MathFloatBits.float64bits) (by kernel_rfl)]
  rfl

theorem number_any (X : Nat) (w : World) : Calls Try.prog 27 #[.int .u64 (X : Int)] w fun e w' => e = .returned (.float .f64 X) ∧ w' = w := by
  have h := from_bits (X : Int)
  rw [Int.toNat_natCast] at h
  go_enter Try.func27, Try.ntmps27
  go_wp2
  go_ret
  exact ⟨rfl, rfl⟩
theorem abs_any (X : Nat) (hX : X < 18446744073709551616) (w : World) : Calls Try.prog 26 #[.float .f64 X] w fun e w' => e = .returned (.float .f64 (X % 9223372036854775808)) ∧ w' = w := by
  have h := to_bits X
  have h2 := andNot_sign X hX
  have h3 := from_bits ((X % 9223372036854775808 : Nat) : Int)
  rw [Int.toNat_natCast] at h3
  generalize X % 9223372036854775808 = Y at *
  go_enter Try.func26, Try.ntmps26
  go_wp2
  go_ret
  exact ⟨rfl, rfl⟩
theorem isInf0_any (X : Nat) (hX : X < 18446744073709551616) (w : World) : Calls Try.prog 28 #[.float .f64 X, .int .i64 0] w fun e w' => e = .returned (.bool (lessS 9218868437227405311 ((X % 9223372036854775808 : Nat) : Int))) ∧ w' = w := by
  have hY : X % 9223372036854775808 < 18446744073709551616 := by omega
  have h := ord_gt (X % 9223372036854775808) 9218868437227405311 hY (by decide)
  have hA := Aside0.mk (abs_any X hX)
  have h2 : lessS ((9218868437227405311 : Nat) : Int) ((X % 9223372036854775808 : Nat) : Int) = lessS 9218868437227405311 ((X % 9223372036854775808 : Nat) : Int) := rfl
  rw [h2] at h
  clear h2 hY
  generalize lessS 9218868437227405311 ((X % 9223372036854775808 : Nat) : Int) = b at *
  generalize X % 9223372036854775808 = Y at *
  go_enter Try.func28, Try.ntmps28
  go_wp2_with (go_at_call 26; refine (hA.out _).mono ?_; rintro e w1 ⟨rfl, rfl⟩)
  go_ret
  exact ⟨rfl, rfl⟩
/-! ### Less, Equal -/

theorem one_nat {a : Int} (ha : inU a = true) : ∃ X : Nat, a = (X : Int) ∧ X < 18446744073709551616 := by
  have h1 := (inU_iff a).1 ha
  exact ⟨a.toNat, by omega, by omega⟩

/-! ### Class -/
def classS (b : Int) : Int := if isNaN b then 4 else if b % 9223372036854775808 = 9218868437227405312 then 3 else if b % 9223372036854775808 = 0 then 0 else if b % 9223372036854775808 < 4503599627370496 then 1 else 2
def classOf (b1 b2 b3 b4 : Bool) : Int := if b1 then 4 else if b2 then 3 else if b3 then 0 else if b4 then 1 else 2
theorem class_facts (Y : Nat) (h : Y < 9223372036854775808) : classOf (!eqlS (Y : Int) (Y : Int)) (lessS 9218868437227405311 (Y : Int)) (eqlS (Y : Int) 0) (lessS (Y : Int) 4503599627370496) = classS (Y : Int) := by
  have s1 : sv (Y : Int) = (Y : Int) := by unfold sv; rw [if_neg (by omega)]
  have s2 : sv 9218868437227405311 = 9218868437227405311 := by decide
  have s3 : sv 0 = 0 := by decide
  have s4 : sv 4503599627370496 = 4503599627370496 := by decide
  have n2 : isNaN 9218868437227405311 = false := by decide
  have n3 : isNaN 0 = false := by decide
  have n4 : isNaN 4503599627370496 = false := by decide
  have e : (Y : Int) % 9223372036854775808 = (Y : Int) := by omega
  unfold classOf classS eqlS lessS
  rw [s1, s2, s3, s4, n2, n3, n4, e]
  unfold isNaN
  rw [e]
  by_cases h1 : 9218868437227405312 < (Y : Int)
  · simp [h1]
  · by_cases h2 : (Y : Int) = 9218868437227405312
    · rw [h2]; decide
    · have h3 : ¬ (9218868437227405311 : Int) < (Y : Int) := by omega
      simp [h1, h2, h3]
theorem class_rung (b : Int) : classS (b % 9223372036854775808) = classS b := by
  have e : b % 9223372036854775808 % 9223372036854775808 = b % 9223372036854775808 := by omega
  unfold classS isNaN
  rw [e]

def float_Class.f (a0 : Int) : Option Int := if inU a0 = true then some (classS a0) else none
theorem float_Class.calls (a0 : Int) (r : Int) (w : World) (h : float_Class.f a0 = some r) :
    Calls Try.prog 9 #[.int .u64 a0] w fun e w' => e = .returned (.int .i64 r) ∧ Drawn0 w w' := by
  unfold float_Class.f at h
  by_cases hc : inU a0 = true
  case neg => rw [if_neg hc] at h; cases h
  rw [if_pos hc] at h
  obtain ⟨X, rfl, hX⟩ := one_nat hc
  have hY : X % 9223372036854775808 < 9223372036854775808 := Nat.mod_lt _ (by decide)
  have hY' : X % 9223372036854775808 < 18446744073709551616 := by omega
  have hcl := class_facts _ hY
  have e : ((X % 9223372036854775808 : Nat) : Int) = (X : Int) % 9223372036854775808 := by omega
  have o1 := ord_ne _ _ hY' hY'
  have o2 := isInf0_any _ hY'
  rw [Nat.mod_mod] at o2
  have o3 := ord_eq (X % 9223372036854775808) 0 hY' (by decide)
  have o4 := ord_lt (X % 9223372036854775808) 4503599627370496 hY' (by decide)
  have c3 : eqlS ((X % 9223372036854775808 : Nat) : Int) ((0 : Nat) : Int) = eqlS ((X % 9223372036854775808 : Nat) : Int) 0 := rfl
  have c4 : lessS ((X % 9223372036854775808 : Nat) : Int) ((4503599627370496 : Nat) : Int) = lessS ((X % 9223372036854775808 : Nat) : Int) 4503599627370496 := rfl
  rw [c3] at o3
  rw [c4] at o4
  have hr : classS ((X % 9223372036854775808 : Nat) : Int) = r := by rw [e, class_rung]; exact Option.some.inj h
  rw [hr] at hcl
  have hA := Aside0.mk (abs_any X hX)
  clear e h hc c3 c4 hY hY' hr
  generalize (!eqlS ((X % 9223372036854775808 : Nat) : Int) ((X % 9223372036854775808 : Nat) : Int)) = b1 at *
  generalize lessS 9218868437227405311 ((X % 9223372036854775808 : Nat) : Int) = b2 at *
  generalize eqlS ((X % 9223372036854775808 : Nat) : Int) 0 = b3 at *
  generalize lessS ((X % 9223372036854775808 : Nat) : Int) 4503599627370496 = b4 at *
  generalize X % 9223372036854775808 = Y at *
  have HO2 := Aside0.mk o2
  clear o2 hX
  unfold classOf at hcl
  cases b1 with
  | true =>
    obtain rfl : 4 = r := by simpa using hcl
    clear hcl
    go_enter Try.func9, Try.ntmps9
    go_wp2_with (first | (go_at_call 27; refine (number_any _ _).mono ?_; rintro e w1 ⟨rfl, rfl⟩) | (go_at_call 26; refine (hA.out _).mono ?_; rintro e w1 ⟨rfl, rfl⟩) | (go_at_call 28; refine (HO2.out _).mono ?_; rintro e w1 ⟨rfl, rfl⟩))
    go_ret
    exact ⟨rfl, Drawn0.refl _⟩
  | false =>
    cases b2 with
    | true =>
      obtain rfl : 3 = r := by simpa using hcl
      clear hcl
      go_enter Try.func9, Try.ntmps9
      go_wp2_with (first | (go_at_call 27; refine (number_any _ _).mono ?_; rintro e w1 ⟨rfl, rfl⟩) | (go_at_call 26; refine (hA.out _).mono ?_; rintro e w1 ⟨rfl, rfl⟩) | (go_at_call 28; refine (HO2.out _).mono ?_; rintro e w1 ⟨rfl, rfl⟩))
      go_ret
      exact ⟨rfl, Drawn0.refl _⟩
    | false =>
      cases b3 with
      | true =>
        obtain rfl : 0 = r := by simpa using hcl
        clear hcl
        go_enter Try.func9, Try.ntmps9
        go_wp2_with (first | (go_at_call 27; refine (number_any _ _).mono ?_; rintro e w1 ⟨rfl, rfl⟩) | (go_at_call 26; refine (hA.out _).mono ?_; rintro e w1 ⟨rfl, rfl⟩) | (go_at_call 28; refine (HO2.out _).mono ?_; rintro e w1 ⟨rfl, rfl⟩))
        go_ret
        exact ⟨rfl, Drawn0.refl _⟩
      | false =>
        cases b4 with
        | true =>
          obtain rfl : 1 = r := by simpa using hcl
          clear hcl
          go_enter Try.func9, Try.ntmps9
          go_wp2_with (first | (go_at_call 27; refine (number_any _ _).mono ?_; rintro e w1 ⟨rfl, rfl⟩) | (go_at_call 26; refine (hA.out _).mono ?_; rintro e w1 ⟨rfl, rfl⟩) | (go_at_call 28; refine (HO2.out _).mono ?_; rintro e w1 ⟨rfl, rfl⟩))
          go_ret
          exact ⟨rfl, Drawn0.refl _⟩
        | false =>
          obtain rfl : 2 = r := by simpa using hcl
          clear hcl
          go_enter Try.func9, Try.ntmps9
          go_wp2_with (first | (go_at_call 27; refine (number_any _ _).mono ?_; rintro e w1 ⟨rfl, rfl⟩) | (go_at_call 26; refine (hA.out _).mono ?_; rintro e w1 ⟨rfl, rfl⟩) | (go_at_call 28; refine (HO2.out _).mono ?_; rintro e w1 ⟨rfl, rfl⟩))
          go_ret
          exact ⟨rfl, Drawn0.refl _⟩

/-! ### Key, FromKey -/
def keyS (b : Int) : Int := if 9223372036854775808 ≤ b then 18446744073709551615 - b else b + 9223372036854775808
def float_Key.f (a0 : Int) : Option Int := if inU a0 = true then some (keyS a0) else none
theorem float_Key.calls (a0 : Int) (r : Int) (w : World) (h : float_Key.f a0 = some r) :
    Calls Try.prog 12 #[.int .u64 a0] w fun e w' => e = .returned (.int .u64 r) ∧ Drawn0 w w' := by
  unfold float_Key.f at h
  by_cases hc : inU a0 = true
  case neg => rw [if_neg hc] at h; cases h
  rw [if_pos hc] at h
  obtain ⟨X, rfl, hX⟩ := one_nat hc
  have h := Option.some.inj h
  have ha := and_sign X hX
  by_cases h1 : X < 9223372036854775808
  · rw [if_pos h1] at ha
    have ho := or_sign X h1
    have e : (X : Int) + 9223372036854775808 = r := by rw [← h]; unfold keyS; rw [if_neg (by omega)]
    rw [e] at ho
    clear h e hc h1
    go_enter Try.func12, Try.ntmps12
    go_wp2
    go_ret
    exact ⟨rfl, Drawn0.refl _⟩
  · rw [if_neg h1] at ha
    have e : 18446744073709551615 - (X : Int) = r := by rw [← h]; unfold keyS; rw [if_pos (by omega)]
    have hx := xor_max X hX
    rw [e] at hx
    clear hc h e
    go_enter Try.func12, Try.ntmps12
    go_wp2
    go_ret
    exact ⟨rfl, Drawn0.refl _⟩
/-! ### Of -/
def ofS (n : Int) : Int := if n < 0 then 9223372036854775808 + (ofN n.natAbs : Int) else (ofN n.natAbs : Int)
def inI (n : Int) : Bool := decide (-9223372036854775808 ≤ n ∧ n ≤ 9223372036854775807)
theorem log_le {m : Nat} (h : m ≤ 9223372036854775808) : m.log2 ≤ 63 := by
  by_cases h0 : m = 0
  · subst h0; decide
  · have h1 := (log2_bounds h0).1
    have : 2 ^ m.log2 < 2 ^ 64 := Nat.lt_of_le_of_lt (Nat.le_trans h1 h) (by decide)
    have := (Nat.pow_lt_pow_iff_right (by decide : 1 < 2)).1 this
    omega
theorem of_word (n : Int) (h : inI n = true) : (floatOfInt .f64 n : Int) = ofS n := by
  have h' : -9223372036854775808 ≤ n ∧ n ≤ 9223372036854775807 := by unfold inI at h; simpa using h
  have e : floatOfInt .f64 n = Ieee.double.nearest (n < 0) n.natAbs 0 := rfl
  rw [e, nearest_eq _ _ (log_le (by omega))]
  unfold ofS Ieee.Format.word
  rw [sw]
  by_cases h0 : n < 0 <;> simp [h0]
def float_Of.f (a0 : Int) : Option Int := if inI a0 = true then some (ofS a0) else none
theorem float_Of.calls (a0 : Int) (r : Int) (w : World) (h : float_Of.f a0 = some r) :
    Calls Try.prog 16 #[.int .i64 a0] w fun e w' => e = .returned (.int .u64 r) ∧ Drawn0 w w' := by
  unfold float_Of.f at h
  by_cases hc : inI a0 = true
  case neg => rw [if_neg hc] at h; cases h
  rw [if_pos hc] at h
  have h1 := of_word a0 hc
  rw [Option.some.inj h] at h1
  have h2 := to_bits (floatOfInt .f64 a0)
  rw [h1] at h2
  have h3 : ∀ W, (convert 3 62 (.int .i64 a0)).run Try.prog W = .ok (.float .f64 (floatOfInt .f64 a0)) W := fun W => run_convert_int_float W 3 62 .i64 .f64 a0 (by kernel_rfl) (by kernel_rfl)
  generalize floatOfInt .f64 a0 = N at *
  clear h1 h hc
  go_enter Try.func16, Try.ntmps16
  go_wp2
  go_ret
  exact ⟨rfl, Drawn0.refl _⟩

end Go.Proofs.Ytjbdlgjhnldfbaa.Q
