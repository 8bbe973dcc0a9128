import Derived.Test.YtkcoabnghdlboaaH3
namespace Go.Proofs.Ytkcoabnghdlboaa.Q
open Go.RowKit Go.Proofs.YtkcoabnghdlboaaW Go.Proofs.YtkcoabnghdlboaaW.PrintWords Go.Proofs.YtkcoabnghdlboaaW.PrintLast Go.Proofs.YtkcoabnghdlboaaW.PrintMore
open FL
set_option linter.unusedVariables false
set_option linter.unusedSimpArgs false


/-! ### Int -/
def tI (x : Nat) (d : Ieee.Datum) : Sem Value :=
  match d with
  | .nan s t =>
    if FloatKind.f64.format.quiet t = t then pure (.float .f64 x) else do
    let kept ← choose (.extern "math.Floor,Ceil,Trunc,RoundToEven.signallingNaN kept" 2)
    pure (.float .f64 (if kept == 1 then x else FloatKind.f64.encode (.nan s (FloatKind.f64.format.quiet t))))
  | d => pure (.float .f64 (FloatKind.f64.encode (d.integral .zero)))
theorem tI_eq (X : Nat) : Extern.MathFloor.toIntegral "math.archTrunc" .zero #[.float .f64 X] = tI X (Ieee.double.read X) := rfl
theorem trunc_num (X : Nat) (h : isNaN (X : Int) = false) (w : World) : (callFunc 52 #[.float .f64 X]).run Try.prog w = .ok (.value (.float .f64 (truncN X))) w := by
  rw [run_callFunc_extern Try.func52 (by kernel_rfl) (by kernel_rfl) (by kernel_rfl) (e := Extern.MathFloor.toIntegral "math.archTrunc" .zero) (by kernel_rfl)]
  have hn : ¬ 9218868437227405312 < X % 9223372036854775808 := by rw [nan_nat] at h; simpa using h
  have e : (Extern.MathFloor.toIntegral "math.archTrunc" .zero #[.float .f64 X]).run Try.prog w = .ok (.float .f64 (truncN X)) w := by
    rw [tI_eq]
    by_cases h1 : X % 9223372036854775808 < 9218868437227405312
    · have ht : truncN X = FloatKind.f64.encode ((Ieee.double.read X).integral .zero) := rfl
      rw [ht, read_fin X h1]
      rfl
    · have ht : truncN X = FloatKind.f64.encode ((Ieee.double.read X).integral .zero) := rfl
      rw [ht, read_inf X (by omega)]
      rfl
  rw [e]
  rfl
theorem trunc_nan (X : Nat) (h : isNaN (X : Int) = true) (w : World) : ∃ Z n, (callFunc 52 #[.float .f64 X]).run Try.prog w = .ok (.value (.float .f64 Z)) (w.drewN n) := by
  rw [run_callFunc_extern Try.func52 (by kernel_rfl) (by kernel_rfl) (by kernel_rfl) (e := Extern.MathFloor.toIntegral "math.archTrunc" .zero) (by kernel_rfl)]
  have hn : 9218868437227405312 < X % 9223372036854775808 := by rw [nan_nat] at h; simpa using h
  have e : ∃ Z n, (Extern.MathFloor.toIntegral "math.archTrunc" .zero #[.float .f64 X]).run Try.prog w = .ok (.float .f64 Z) (w.drewN n) := by
    rw [tI_eq, read_nan X hn]
    unfold tI
    dsimp only
    split
    · exact ⟨X, 0, rfl⟩
    · exact ⟨_, 1, by simp [run_choose_drew, Question.forced]; exact ⟨rfl, rfl⟩⟩
  obtain ⟨Z, n, e⟩ := e
  exact ⟨Z, n, by rw [e]; rfl⟩

theorem bigTrunc_num (X : Nat) (h : isNaN (X : Int) = false) (w : World) : Calls Try.prog 46 #[.float .f64 X] w fun e w' => e = .returned (.float .f64 (truncN X)) ∧ w' = w := by
  have h1 := trunc_num X h
  generalize truncN X = Z at *
  clear h
  go_enter Try.func46, Try.ntmps46
  go_wp2
  go_ret
  exact ⟨rfl, rfl⟩
theorem bigTrunc_nan (X : Nat) (h : isNaN (X : Int) = true) (w : World) : Calls Try.prog 46 #[.float .f64 X] w fun e w' => (∃ Z, e = .returned (.float .f64 Z)) ∧ Drawn0 w w' := by
  obtain ⟨Z, n, h1⟩ := trunc_nan X h w
  clear h
  go_enter Try.func46, Try.ntmps46
  go_wp2
  go_ret
  exact ⟨⟨Z, rfl⟩, ⟨⟨n, rfl⟩⟩⟩
end Go.Proofs.Ytkcoabnghdlboaa.Q
