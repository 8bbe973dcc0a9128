import Derived.Test.YtkcoabnghdlboaaH5
namespace Go.Proofs.Ytkcoabnghdlboaa.Q
open Go.RowKit Go.Proofs.YtkcoabnghdlboaaW Go.Proofs.YtkcoabnghdlboaaW.PrintWords Go.Proofs.YtkcoabnghdlboaaW.PrintLast Go.Proofs.YtkcoabnghdlboaaW.PrintMore
open FL
set_option linter.unusedVariables false
set_option linter.unusedSimpArgs false


def float_Int.f (a0 : Int) : Option (Int × Bool) := if inU a0 = true then some (intS a0) else none
theorem float_Int.calls (a0 : Int) (r1 : Int) (r2 : Bool) (w : World) (h : float_Int.f a0 = some (r1, r2)) :
    Calls Try.prog 25 #[.int .u64 a0] w fun e w' => e = .returned (.tuple #[.int .i64 r1, .bool r2]) ∧ Drawn0 w w' := by
  unfold float_Int.f at h
  by_cases hc : inU a0 = true
  case neg => rw [if_neg hc] at h; cases h
  rw [if_pos hc] at h
  obtain ⟨X, rfl, hX⟩ := one_nat hc
  have hr := Option.some.inj h
  clear h hc
  cases nX : isNaN (X : Int) with
  | true =>
    have o1 := Aside0.mk (bigTrunc_nan X nX)
    have hz : ∀ Z, (FloatKind.f64.format.order X Z != some .eq) = true := by
      intro Z
      have hn : 9218868437227405312 < X % 9223372036854775808 := by rw [nan_nat] at nX; simpa using nX
      show (Ieee.double.order X Z != some .eq) = true
      rw [order_eq, if_pos (Or.inl hn)]
      rfl
    unfold intS intB at hr
    rw [nX] at hr
    obtain ⟨rfl, rfl⟩ : 0 = r1 ∧ false = r2 := by simpa using hr
    clear hr nX hX
    go_enter Try.func25, Try.ntmps25
    go_wp2_with (first | (go_at_call 37; refine (number_any _ _).mono ?_; rintro e w1 ⟨rfl, rfl⟩) | (go_at_call 46; refine (o1.out _).mono ?_; rintro e w1 ⟨⟨Z, rfl⟩, hd⟩))
    go_ret2
    exact ⟨rfl, hd⟩
  | false =>
    have hn : ¬ 9218868437227405312 < X % 9223372036854775808 := by rw [nan_nat] at nX; simpa using nX
    have o1 := Aside0.mk (bigTrunc_num X nX)
    have o2 := whole_word X hX hn
    have o3 := ord_lt X 14114281232179134464 hX (by decide)
    have o4 := ord_ge X 4890909195324358656 hX (by decide)
    have c3 : lessS (X : Int) ((14114281232179134464 : Nat) : Int) = lessS (X : Int) 14114281232179134464 := rfl
    have c4 : (lessS ((4890909195324358656 : Nat) : Int) (X : Int) || eqlS (X : Int) ((4890909195324358656 : Nat) : Int)) = (lessS 4890909195324358656 (X : Int) || eqlS (X : Int) 4890909195324358656) := rfl
    rw [c3] at o3
    rw [c4] at o4
    have o5 : lessS (X : Int) 14114281232179134464 = false → (lessS 4890909195324358656 (X : Int) || eqlS (X : Int) 4890909195324358656) = false → floatToIntVal .f64 X .i64 = some (signedS (X : Int)) := by
      intro e1 e2
      unfold lessS at e1 e2
      unfold eqlS at e2
      have s1 : sv 14114281232179134464 = -4890909195324358656 := by decide
      have s2 : sv 4890909195324358656 = 4890909195324358656 := by decide
      have n1 : isNaN 14114281232179134464 = false := by decide
      have n2 : isNaN 4890909195324358656 = false := by decide
      rw [nX, n1, s1] at e1
      rw [nX, n2, s2] at e2
      simp at e1 e2
      have hsv : sv (X : Int) = if 9223372036854775808 ≤ (X : Int) then -((X : Int) - 9223372036854775808) else (X : Int) := rfl
      by_cases h : 9223372036854775808 ≤ (X : Int)
      · rw [if_pos h] at hsv
        exact conv_word X hX (by omega) (by omega)
      · rw [if_neg h] at hsv
        exact conv_word X hX (by omega) (by omega)
    unfold intS intB at hr
    rw [nX, Int.toNat_natCast] at hr
    clear c3 c4 hn nX
    generalize lessS (X : Int) 14114281232179134464 = lo at *
    generalize (lessS 4890909195324358656 (X : Int) || eqlS (X : Int) 4890909195324358656) = hi at *
    generalize wholeR (X % 9223372036854775808) = wh at *
    generalize truncN X = T at *
    clear hX
    cases wh with
    | false =>
      obtain ⟨rfl, rfl⟩ : 0 = r1 ∧ false = r2 := by simpa using hr
      clear hr o5
      go_enter Try.func25, Try.ntmps25
      go_wp2_with (first | (go_at_call 37; refine (number_any _ _).mono ?_; rintro e w1 ⟨rfl, rfl⟩) | (go_at_call 46; refine (o1.out _).mono ?_; rintro e w1 ⟨rfl, rfl⟩))
      go_ret2
      exact ⟨rfl, Drawn0.refl _⟩
    | true =>
      cases lo with
      | true =>
        obtain ⟨rfl, rfl⟩ : 0 = r1 ∧ false = r2 := by simpa using hr
        clear hr o5
        go_enter Try.func25, Try.ntmps25
        go_wp2_with (first | (go_at_call 37; refine (number_any _ _).mono ?_; rintro e w1 ⟨rfl, rfl⟩) | (go_at_call 46; refine (o1.out _).mono ?_; rintro e w1 ⟨rfl, rfl⟩))
        go_ret2
        exact ⟨rfl, Drawn0.refl _⟩
      | false =>
        cases hi with
        | true =>
          obtain ⟨rfl, rfl⟩ : 0 = r1 ∧ false = r2 := by simpa using hr
          clear hr o5
          go_enter Try.func25, Try.ntmps25
          go_wp2_with (first | (go_at_call 37; refine (number_any _ _).mono ?_; rintro e w1 ⟨rfl, rfl⟩) | (go_at_call 46; refine (o1.out _).mono ?_; rintro e w1 ⟨rfl, rfl⟩))
          go_ret2
          exact ⟨rfl, Drawn0.refl _⟩
        | false =>
          have o5 := o5 rfl rfl
          have h3 : ∀ W, (convert 35 3 (.float .f64 X)).run Try.prog W = .ok (.int .i64 (signedS (X : Int))) W := fun W => run_convert_float_int W 35 3 .f64 .i64 X _ (by kernel_rfl) (by kernel_rfl) o5
          clear o5
          generalize signedS (X : Int) = v at *
          obtain ⟨rfl, rfl⟩ : v = r1 ∧ true = r2 := by simpa using hr
          clear hr
          go_enter Try.func25, Try.ntmps25
          go_wp2_with (first | (go_at_call 37; refine (number_any _ _).mono ?_; rintro e w1 ⟨rfl, rfl⟩) | (go_at_call 46; refine (o1.out _).mono ?_; rintro e w1 ⟨rfl, rfl⟩))
          go_ret2
          exact ⟨rfl, Drawn0.refl _⟩
end Go.Proofs.Ytkcoabnghdlboaa.Q
