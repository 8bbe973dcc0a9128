/- NoteBack: at every input the law returns true and its arguments read as before. No condition. -/
import Derived.Test.YthcikbbglpdjhaaNB
namespace Go.Proofs.Ythcikbbglpdjhaa.Q
open Go.RowKit Go.Proofs.YthcikbbglpdjhaaW Go.Proofs.YthcikbbglpdjhaaW.PrintWords Go.Proofs.YthcikbbglpdjhaaW.PrintLast Go.Proofs.YthcikbbglpdjhaaW.PrintMore
set_option linter.unusedVariables false
theorem byte_of' {x : Int} (h : (Lit.int .u8 x).wf = true) : byteB x := by
  simp only [Lit.wf, Bool.and_eq_true, decide_eq_true_eq] at h
  have h1 : (IntKind.u8.min : Int) = 0 := by decide
  have h2 : (IntKind.u8.max : Int) = 255 := by decide
  unfold byteB
  omega
theorem i64_of {x : Int} (h : (Lit.int .i64 x).wf = true) : -9223372036854775808 ≤ x ∧ x < 9223372036854775808 := by
  simp only [Lit.wf, Bool.and_eq_true, decide_eq_true_eq] at h
  have h1 : (IntKind.i64.min : Int) = -9223372036854775808 := by decide
  have h2 : (IntKind.i64.max : Int) = 9223372036854775807 := by decide
  omega
end Go.Proofs.Ythcikbbglpdjhaa.Q
namespace Go.Proofs.Ythcikbbglpdjhaa
open Go.RowKit Go.Proofs.YthcikbbglpdjhaaW Go.Proofs.YthcikbbglpdjhaaW.PrintWords Go.Proofs.YthcikbbglpdjhaaW.PrintLast Go.Proofs.YthcikbbglpdjhaaW.PrintMore Go.Proofs.Ythcikbbglpdjhaa.Q
theorem noteBack_holds : Rows.NoteBackSaid := noteBack.said fun x0 A2 c2 A3 c3 a1 w hg hc2 hC2 hc3 hC3 ha => by
  obtain ⟨_, _, hi, ho⟩ := hg
  have hn : NC w A2 c2 x0.f2 A3 c3 x0.f3 := ⟨hC2, hc2, hC3, hc3⟩
  cases hf : fewB 40 x0.f2 x0.f3 with
  | false => exact back_few x0.f0 x0.f1 A2 c2 x0.f2 A3 c3 x0.f3 a1 w hn hf
  | true =>
    cases hs : saneN x0.f0 x0.f1 x0.f2 x0.f3 with
    | false => exact back_bad x0.f0 x0.f1 A2 c2 x0.f2 A3 c3 x0.f3 a1 w hn hf hs
    | true => exact back_ok x0.f0 x0.f1 A2 c2 x0.f2 A3 c3 x0.f3 a1 w hn hf hs (fun x hx y hy => byte_of' ((hi x hx).2 y hy)) (fun o ho' => i64_of (ho o ho').2) (byte_of' ha)
end Go.Proofs.Ythcikbbglpdjhaa
