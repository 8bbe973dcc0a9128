import Derived.Test.YtkcoabnghdlboaaH0
namespace Go.Proofs.Ytkcoabnghdlboaa.Q
open Go.RowKit Go.Proofs.YtkcoabnghdlboaaW Go.Proofs.YtkcoabnghdlboaaW.PrintWords Go.Proofs.YtkcoabnghdlboaaW.PrintLast Go.Proofs.YtkcoabnghdlboaaW.PrintMore
open FL
set_option linter.unusedVariables false
set_option linter.unusedSimpArgs false

/-! ### nan, Min, Max -/
theorem eqlS_self (a : Int) : (!eqlS a a) = isNaN a := by unfold eqlS; cases isNaN a <;> simp
def quietS (a : Int) : Int := Go.bits .or .u64 a 2251799813685248
theorem nan_any (X Y : Nat) (hX : X < 18446744073709551616) (hY : Y < 18446744073709551616) (w : World) :
    Calls Try.prog 44 #[.int .u64 (X : Int), .int .u64 (Y : Int)] w fun e w' => e = .returned (.tuple #[.int .u64 (if isNaN (X : Int) then quietS X else if isNaN (Y : Int) then quietS Y else 0), .bool (isNaN (X : Int) || isNaN (Y : Int))]) ∧ Below w.heap.size w w' := by
  have nX := Aside0.mk (isNaN_any X hX)
  have nY := Aside0.mk (isNaN_any Y hY)
  rw [eqlS_self] at nX nY
  have qX : Go.bits .or .u64 (X : Int) 2251799813685248 = quietS X := rfl
  have qY : Go.bits .or .u64 (Y : Int) 2251799813685248 = quietS Y := rfl
  generalize quietS X = q1 at *
  generalize quietS Y = q2 at *
  clear hX hY
  cases hx : isNaN (X : Int) with
  | true =>
    rw [hx] at nX
    clear hx nY qY
    go_enter Try.func44, Try.ntmps44
    go_wp2
    refine wp_loop_rounds 3 ?_
    rw [rounds_succ]
    go_wp2_with (first | (go_at_call 37; refine (number_any _ _).mono ?_; rintro e w1 ⟨rfl, rfl⟩) | (go_at_call 51; refine (nX.out _).mono ?_; rintro e w1 ⟨rfl, rfl⟩))
    go_ret2
    exact ⟨rfl, (Below.refl _ _).alloc (Nat.le_refl _) _⟩
  | false =>
    rw [hx] at nX
    cases hy : isNaN (Y : Int) with
    | true =>
      rw [hy] at nY
      clear hx hy
      go_enter Try.func44, Try.ntmps44
      go_wp2
      refine wp_loop_rounds 3 ?_
      rw [rounds_succ]
      go_wp2_with (first | (go_at_call 37; refine (number_any _ _).mono ?_; rintro e w1 ⟨rfl, rfl⟩) | (go_at_call 51; refine (nX.out _).mono ?_; rintro e w1 ⟨rfl, rfl⟩))
      rw [rounds_succ]
      go_wp2_with (first | (go_at_call 37; refine (number_any _ _).mono ?_; rintro e w1 ⟨rfl, rfl⟩) | (go_at_call 51; refine (nY.out _).mono ?_; rintro e w1 ⟨rfl, rfl⟩))
      go_ret2
      exact ⟨rfl, (Below.refl _ _).alloc (Nat.le_refl _) _⟩
    | false =>
      rw [hy] at nY
      clear hx hy
      go_enter Try.func44, Try.ntmps44
      go_wp2
      refine wp_loop_rounds 3 ?_
      rw [rounds_succ]
      go_wp2_with (first | (go_at_call 37; refine (number_any _ _).mono ?_; rintro e w1 ⟨rfl, rfl⟩) | (go_at_call 51; refine (nX.out _).mono ?_; rintro e w1 ⟨rfl, rfl⟩))
      rw [rounds_succ]
      go_wp2_with (first | (go_at_call 37; refine (number_any _ _).mono ?_; rintro e w1 ⟨rfl, rfl⟩) | (go_at_call 51; refine (nY.out _).mono ?_; rintro e w1 ⟨rfl, rfl⟩))
      rw [rounds_succ]
      go_wp2
      go_ret2
      exact ⟨rfl, (Below.refl _ _).alloc (Nat.le_refl _) _⟩
end Go.Proofs.Ytkcoabnghdlboaa.Q
