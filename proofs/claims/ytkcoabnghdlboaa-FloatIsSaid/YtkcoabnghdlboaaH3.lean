import Derived.Test.YtkcoabnghdlboaaH2
namespace Go.Proofs.Ytkcoabnghdlboaa.Q
open Go.RowKit Go.Proofs.YtkcoabnghdlboaaW Go.Proofs.YtkcoabnghdlboaaW.PrintWords Go.Proofs.YtkcoabnghdlboaaW.PrintLast Go.Proofs.YtkcoabnghdlboaaW.PrintMore
open FL
set_option linter.unusedVariables false
set_option linter.unusedSimpArgs false


/-! ### Next -/
theorem signbit_any (X : Nat) (hX : X < 18446744073709551616) (w : World) : Calls Try.prog 41 #[.float .f64 X] w fun e w' => e = .returned (.bool (decide (9223372036854775808 ≤ X))) ∧ w' = w := by
  have h := to_bits X
  have hw : (decide (wrap64 (X : Int) < 0)) = decide (9223372036854775808 ≤ X) := by
    congr 1
    apply propext
    unfold wrap64
    omega
  generalize decide (9223372036854775808 ≤ X) = b at *
  clear hX
  go_enter Try.func41, Try.ntmps41
  go_wp2
  go_ret
  exact ⟨rfl, rfl⟩

def nextB (b1 b2 b3 b4 : Bool) (b : Int) : Int := if b1 then b else if b2 then b else if b3 then 1 else if b4 then b - 1 else b + 1
def nextS (b : Int) : Int := nextB (isNaN b) (lessS 9218868437227405311 b) (eqlS b 0) (decide (9223372036854775808 ≤ b)) b
def float_Next.f (a0 : Int) : Option Int := if inU a0 = true then some (nextS a0) else none
theorem float_Next.calls (a0 : Int) (r : Int) (w : World) (h : float_Next.f a0 = some r) :
    Calls Try.prog 18 #[.int .u64 a0] w fun e w' => e = .returned (.int .u64 r) ∧ Drawn0 w w' := by
  unfold float_Next.f at h
  by_cases hc : inU a0 = true
  case neg => rw [if_neg hc] at h; cases h
  rw [if_pos hc] at h
  obtain ⟨X, rfl, hX⟩ := one_nat hc
  have hr := Option.some.inj h
  have o1 := ord_ne X X hX hX
  rw [eqlS_self] at o1
  have o2 := Aside0.mk (isInf1_any X hX)
  have o3 := ord_eq X 0 hX (by decide)
  have c3 : eqlS (X : Int) ((0 : Nat) : Int) = eqlS (X : Int) 0 := rfl
  rw [c3] at o3
  have o4 := Aside0.mk (signbit_any X hX)
  have o5 := to_bits 1
  unfold nextS at hr
  have hsb : decide (9223372036854775808 ≤ (X : Int)) = (decide (9223372036854775808 ≤ X)) := by congr 1; apply propext; omega
  rw [hsb] at hr
  clear hsb
  have w1 : 9223372036854775808 ≤ X → IntKind.u64.wrap ((X : Int) - 1) = (X : Int) - 1 := fun h => by rw [wrap_u64]; omega
  have w2 : (decide (9223372036854775808 ≤ X)) = false → IntKind.u64.wrap ((X : Int) + 1) = (X : Int) + 1 := fun h => by have := of_decide_eq_false h; rw [wrap_u64]; omega
  have w1 : (decide (9223372036854775808 ≤ X)) = true → IntKind.u64.wrap ((X : Int) - 1) = (X : Int) - 1 := fun h => w1 (of_decide_eq_true h)
  generalize decide (9223372036854775808 ≤ X) = b4 at *
  generalize eqlS (X : Int) 0 = b3 at *
  generalize lessS 9218868437227405311 (X : Int) = b2 at *
  generalize isNaN (X : Int) = b1 at *
  clear h hc c3 hX
  unfold nextB at hr
  cases b1 with
  | true =>
    obtain rfl : (X : Int) = r := by simpa using hr
    clear w1 w2 hr
    go_enter Try.func18, Try.ntmps18
    go_wp2_with (first | (go_at_call 37; refine (number_any _ _).mono ?_; rintro e w1 ⟨rfl, rfl⟩) | (go_at_call 39; refine (o2.out _).mono ?_; rintro e w1 ⟨rfl, rfl⟩) | (go_at_call 41; refine (o4.out _).mono ?_; rintro e w1 ⟨rfl, rfl⟩))
    go_ret
    exact ⟨rfl, Drawn0.refl _⟩
  | false =>
    cases b2 with
    | true =>
      obtain rfl : (X : Int) = r := by simpa using hr
      clear w1 w2 hr
      go_enter Try.func18, Try.ntmps18
      go_wp2_with (first | (go_at_call 37; refine (number_any _ _).mono ?_; rintro e w1 ⟨rfl, rfl⟩) | (go_at_call 39; refine (o2.out _).mono ?_; rintro e w1 ⟨rfl, rfl⟩) | (go_at_call 41; refine (o4.out _).mono ?_; rintro e w1 ⟨rfl, rfl⟩))
      go_ret
      exact ⟨rfl, Drawn0.refl _⟩
    | false =>
      cases b3 with
      | true =>
        obtain rfl : 1 = r := by simpa using hr
        clear w1 w2 hr
        go_enter Try.func18, Try.ntmps18
        go_wp2_with (first | (go_at_call 37; refine (number_any _ _).mono ?_; rintro e w1 ⟨rfl, rfl⟩) | (go_at_call 39; refine (o2.out _).mono ?_; rintro e w1 ⟨rfl, rfl⟩) | (go_at_call 41; refine (o4.out _).mono ?_; rintro e w1 ⟨rfl, rfl⟩))
        go_ret
        exact ⟨rfl, Drawn0.refl _⟩
      | false =>
        cases b4 with
        | true =>
          have w1 := w1 rfl
          obtain rfl : (X : Int) - 1 = r := by simpa using hr
          clear w2 hr
          go_enter Try.func18, Try.ntmps18
          go_wp2_with (first | (go_at_call 37; refine (number_any _ _).mono ?_; rintro e w1 ⟨rfl, rfl⟩) | (go_at_call 39; refine (o2.out _).mono ?_; rintro e w1 ⟨rfl, rfl⟩) | (go_at_call 41; refine (o4.out _).mono ?_; rintro e w1 ⟨rfl, rfl⟩))
          go_ret
          exact ⟨rfl, Drawn0.refl _⟩
        | false =>
          have w2 := w2 rfl
          obtain rfl : (X : Int) + 1 = r := by simpa using hr
          clear w1 hr
          go_enter Try.func18, Try.ntmps18
          go_wp2_with (first | (go_at_call 37; refine (number_any _ _).mono ?_; rintro e w1 ⟨rfl, rfl⟩) | (go_at_call 39; refine (o2.out _).mono ?_; rintro e w1 ⟨rfl, rfl⟩) | (go_at_call 41; refine (o4.out _).mono ?_; rintro e w1 ⟨rfl, rfl⟩))
          go_ret
          exact ⟨rfl, Drawn0.refl _⟩
end Go.Proofs.Ytkcoabnghdlboaa.Q
