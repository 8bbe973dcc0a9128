-- Written by hprint.py (the kit's printer, with functions that are given). Lean checks it.
import Derived.Test.YtkcoabnghdlboaaQ0
import Derived.Test.YtkcoabnghdlboaaQ1
import Derived.Test.YtkcoabnghdlboaaH6
namespace Go.Proofs.Ytkcoabnghdlboaa.Q
open Go.RowKit Go.Proofs.YtkcoabnghdlboaaW.PrintWords Go.Proofs.YtkcoabnghdlboaaW.PrintLast Go.Proofs.YtkcoabnghdlboaaW.PrintMore
attribute [local go_sem] max2_int min2_int max_two min_two max_three min_three max_four min_four   -- for this text's walks alone
set_option linter.unusedVariables false
set_option linter.unusedSimpArgs false

-- GIVEN: function 25 (float_Int)

/-! ### float_Neg: function 27 -/
def float_Neg.f (a0 : Int) : Option (Int) := some (Go.bits .xor .u64 a0 9223372036854775808)
set_option maxHeartbeats 8000000 in
set_option maxRecDepth 100000 in
theorem float_Neg.calls (a0 : Int) (r : Int) (w : World) (h : float_Neg.f a0 = some r) :
    Calls Try.prog 27 #[.int .u64 a0] w fun e w' => e = .returned (.int .u64 r) ∧ Drawn0 w w' := by
  have H : (some (Go.bits .xor .u64 a0 9223372036854775808)) = some r := h
  clear h
  obtain rfl := Option.some.inj H
  go_enter Try.func27, Try.ntmps27
  go_wp2
  go_ret
  exact ⟨by first | rfl | (simp; done) | (simp [*]; done), by repeat (first | exact Drawn0.refl _ | apply Drawn0.step)⟩

/-! ### heronrylaw02_FloatWhole: function 7 -/
def heronrylaw02_FloatWhole.f (a0 : Int) (a1 : Int) : Option (Bool) := (heronrylaw02_awake.f).bind fun t203 => ((float_Of.f (Go.bits .and .i64 a0 9007199254740991)).bind fun t204 => ((float_Int.f t204).bind fun bt205 => ((float_Of.f (wrap64 ((Go.bits .and .i64 a1 9007199254740991) - 4503599627370496))).bind fun t207 => ((float_Int.f t207).bind fun bt208 => ((float_Of.f (wrap64 ((Go.bits .and .i64 a1 9007199254740991) - 4503599627370496))).bind fun t210 => ((float_Neg.f t210).bind fun t211 => ((float_Int.f t211).bind fun bt212 => (if t203 = true then (if bt205.2 = true then (if bt208.2 = true then (if bt212.2 = true then (if bt205.1 = (Go.bits .and .i64 a0 9007199254740991) then (if bt208.1 = (wrap64 ((Go.bits .and .i64 a1 9007199254740991) - 4503599627370496)) then (if bt212.1 = (wrap64 (-(wrap64 ((Go.bits .and .i64 a1 9007199254740991) - 4503599627370496)))) then ((float_Of.f (Go.bits .and .i64 a0 9007199254740991)).bind fun t214 => ((float_Of.f (wrap64 ((Go.bits .and .i64 a1 9007199254740991) - 4503599627370496))).bind fun t215 => ((float_Less.f t214 t215).bind fun t216 => (if (t216 == (decide ((Go.bits .and .i64 a0 9007199254740991) < (wrap64 ((Go.bits .and .i64 a1 9007199254740991) - 4503599627370496))))) = true then ((float_Of.f (Go.bits .and .i64 a0 9007199254740991)).bind fun t217 => ((float_Of.f (wrap64 ((Go.bits .and .i64 a1 9007199254740991) - 4503599627370496))).bind fun t218 => ((float_Equal.f t217 t218).bind fun t219 => (some (t219 == ((Go.bits .and .i64 a0 9007199254740991) == (wrap64 ((Go.bits .and .i64 a1 9007199254740991) - 4503599627370496)))))))) else (some false))))) else (some false)) else (some false)) else (some false)) else (some false)) else (some false)) else (some false)) else (some false)))))))))
set_option maxHeartbeats 8000000 in
set_option maxRecDepth 100000 in
theorem heronrylaw02_FloatWhole.calls (a0 : Int) (a1 : Int) (r : Bool) (w : World) (hT_ : Aside0 (r = true)) (h : heronrylaw02_FloatWhole.f a0 a1 = some r) :
    Calls Try.prog 7 #[.int .i64 a0, .int .i64 a1] w fun e w' => e = .returned (.bool r) ∧ Drawn0 w w' := by
  have H : ((heronrylaw02_awake.f).bind fun t203 => ((float_Of.f (Go.bits .and .i64 a0 9007199254740991)).bind fun t204 => ((float_Int.f t204).bind fun bt205 => ((float_Of.f (wrap64 ((Go.bits .and .i64 a1 9007199254740991) - 4503599627370496))).bind fun t207 => ((float_Int.f t207).bind fun bt208 => ((float_Of.f (wrap64 ((Go.bits .and .i64 a1 9007199254740991) - 4503599627370496))).bind fun t210 => ((float_Neg.f t210).bind fun t211 => ((float_Int.f t211).bind fun bt212 => (if t203 = true then (if bt205.2 = true then (if bt208.2 = true then (if bt212.2 = true then (if bt205.1 = (Go.bits .and .i64 a0 9007199254740991) then (if bt208.1 = (wrap64 ((Go.bits .and .i64 a1 9007199254740991) - 4503599627370496)) then (if bt212.1 = (wrap64 (-(wrap64 ((Go.bits .and .i64 a1 9007199254740991) - 4503599627370496)))) then ((float_Of.f (Go.bits .and .i64 a0 9007199254740991)).bind fun t214 => ((float_Of.f (wrap64 ((Go.bits .and .i64 a1 9007199254740991) - 4503599627370496))).bind fun t215 => ((float_Less.f t214 t215).bind fun t216 => (if (t216 == (decide ((Go.bits .and .i64 a0 9007199254740991) < (wrap64 ((Go.bits .and .i64 a1 9007199254740991) - 4503599627370496))))) = true then ((float_Of.f (Go.bits .and .i64 a0 9007199254740991)).bind fun t217 => ((float_Of.f (wrap64 ((Go.bits .and .i64 a1 9007199254740991) - 4503599627370496))).bind fun t218 => ((float_Equal.f t217 t218).bind fun t219 => (some (t219 == ((Go.bits .and .i64 a0 9007199254740991) == (wrap64 ((Go.bits .and .i64 a1 9007199254740991) - 4503599627370496)))))))) else (some false))))) else (some false)) else (some false)) else (some false)) else (some false)) else (some false)) else (some false)) else (some false)))))))))) = some r := h
  clear h
  replace H := Option.bind_eq_some_iff.mp H
  obtain ⟨t203, A30, H⟩ := H
  replace H : ((float_Of.f (Go.bits .and .i64 a0 9007199254740991)).bind fun t204 => ((float_Int.f t204).bind fun bt205 => ((float_Of.f (wrap64 ((Go.bits .and .i64 a1 9007199254740991) - 4503599627370496))).bind fun t207 => ((float_Int.f t207).bind fun bt208 => ((float_Of.f (wrap64 ((Go.bits .and .i64 a1 9007199254740991) - 4503599627370496))).bind fun t210 => ((float_Neg.f t210).bind fun t211 => ((float_Int.f t211).bind fun bt212 => (if t203 = true then (if bt205.2 = true then (if bt208.2 = true then (if bt212.2 = true then (if bt205.1 = (Go.bits .and .i64 a0 9007199254740991) then (if bt208.1 = (wrap64 ((Go.bits .and .i64 a1 9007199254740991) - 4503599627370496)) then (if bt212.1 = (wrap64 (-(wrap64 ((Go.bits .and .i64 a1 9007199254740991) - 4503599627370496)))) then ((float_Of.f (Go.bits .and .i64 a0 9007199254740991)).bind fun t214 => ((float_Of.f (wrap64 ((Go.bits .and .i64 a1 9007199254740991) - 4503599627370496))).bind fun t215 => ((float_Less.f t214 t215).bind fun t216 => (if (t216 == (decide ((Go.bits .and .i64 a0 9007199254740991) < (wrap64 ((Go.bits .and .i64 a1 9007199254740991) - 4503599627370496))))) = true then ((float_Of.f (Go.bits .and .i64 a0 9007199254740991)).bind fun t217 => ((float_Of.f (wrap64 ((Go.bits .and .i64 a1 9007199254740991) - 4503599627370496))).bind fun t218 => ((float_Equal.f t217 t218).bind fun t219 => (some (t219 == ((Go.bits .and .i64 a0 9007199254740991) == (wrap64 ((Go.bits .and .i64 a1 9007199254740991) - 4503599627370496)))))))) else (some false))))) else (some false)) else (some false)) else (some false)) else (some false)) else (some false)) else (some false)) else (some false))))))))) = some r := H
  have A3 := Aside0.mk A30
  clear A30
  replace H := Option.bind_eq_some_iff.mp H
  obtain ⟨t204, A40, H⟩ := H
  replace H : ((float_Int.f t204).bind fun bt205 => ((float_Of.f (wrap64 ((Go.bits .and .i64 a1 9007199254740991) - 4503599627370496))).bind fun t207 => ((float_Int.f t207).bind fun bt208 => ((float_Of.f (wrap64 ((Go.bits .and .i64 a1 9007199254740991) - 4503599627370496))).bind fun t210 => ((float_Neg.f t210).bind fun t211 => ((float_Int.f t211).bind fun bt212 => (if t203 = true then (if bt205.2 = true then (if bt208.2 = true then (if bt212.2 = true then (if bt205.1 = (Go.bits .and .i64 a0 9007199254740991) then (if bt208.1 = (wrap64 ((Go.bits .and .i64 a1 9007199254740991) - 4503599627370496)) then (if bt212.1 = (wrap64 (-(wrap64 ((Go.bits .and .i64 a1 9007199254740991) - 4503599627370496)))) then ((float_Of.f (Go.bits .and .i64 a0 9007199254740991)).bind fun t214 => ((float_Of.f (wrap64 ((Go.bits .and .i64 a1 9007199254740991) - 4503599627370496))).bind fun t215 => ((float_Less.f t214 t215).bind fun t216 => (if (t216 == (decide ((Go.bits .and .i64 a0 9007199254740991) < (wrap64 ((Go.bits .and .i64 a1 9007199254740991) - 4503599627370496))))) = true then ((float_Of.f (Go.bits .and .i64 a0 9007199254740991)).bind fun t217 => ((float_Of.f (wrap64 ((Go.bits .and .i64 a1 9007199254740991) - 4503599627370496))).bind fun t218 => ((float_Equal.f t217 t218).bind fun t219 => (some (t219 == ((Go.bits .and .i64 a0 9007199254740991) == (wrap64 ((Go.bits .and .i64 a1 9007199254740991) - 4503599627370496)))))))) else (some false))))) else (some false)) else (some false)) else (some false)) else (some false)) else (some false)) else (some false)) else (some false)))))))) = some r := H
  have A4 := Aside0.mk A40
  clear A40
  replace H := Option.bind_eq_some_iff.mp H
  obtain ⟨⟨t205, t206⟩, A50, H⟩ := H
  replace H : ((float_Of.f (wrap64 ((Go.bits .and .i64 a1 9007199254740991) - 4503599627370496))).bind fun t207 => ((float_Int.f t207).bind fun bt208 => ((float_Of.f (wrap64 ((Go.bits .and .i64 a1 9007199254740991) - 4503599627370496))).bind fun t210 => ((float_Neg.f t210).bind fun t211 => ((float_Int.f t211).bind fun bt212 => (if t203 = true then (if t206 = true then (if bt208.2 = true then (if bt212.2 = true then (if t205 = (Go.bits .and .i64 a0 9007199254740991) then (if bt208.1 = (wrap64 ((Go.bits .and .i64 a1 9007199254740991) - 4503599627370496)) then (if bt212.1 = (wrap64 (-(wrap64 ((Go.bits .and .i64 a1 9007199254740991) - 4503599627370496)))) then ((float_Of.f (Go.bits .and .i64 a0 9007199254740991)).bind fun t214 => ((float_Of.f (wrap64 ((Go.bits .and .i64 a1 9007199254740991) - 4503599627370496))).bind fun t215 => ((float_Less.f t214 t215).bind fun t216 => (if (t216 == (decide ((Go.bits .and .i64 a0 9007199254740991) < (wrap64 ((Go.bits .and .i64 a1 9007199254740991) - 4503599627370496))))) = true then ((float_Of.f (Go.bits .and .i64 a0 9007199254740991)).bind fun t217 => ((float_Of.f (wrap64 ((Go.bits .and .i64 a1 9007199254740991) - 4503599627370496))).bind fun t218 => ((float_Equal.f t217 t218).bind fun t219 => (some (t219 == ((Go.bits .and .i64 a0 9007199254740991) == (wrap64 ((Go.bits .and .i64 a1 9007199254740991) - 4503599627370496)))))))) else (some false))))) else (some false)) else (some false)) else (some false)) else (some false)) else (some false)) else (some false)) else (some false))))))) = some r := H
  have A5 := Aside0.mk A50
  clear A50
  replace H := Option.bind_eq_some_iff.mp H
  obtain ⟨t207, A60, H⟩ := H
  replace H : ((float_Int.f t207).bind fun bt208 => ((float_Of.f (wrap64 ((Go.bits .and .i64 a1 9007199254740991) - 4503599627370496))).bind fun t210 => ((float_Neg.f t210).bind fun t211 => ((float_Int.f t211).bind fun bt212 => (if t203 = true then (if t206 = true then (if bt208.2 = true then (if bt212.2 = true then (if t205 = (Go.bits .and .i64 a0 9007199254740991) then (if bt208.1 = (wrap64 ((Go.bits .and .i64 a1 9007199254740991) - 4503599627370496)) then (if bt212.1 = (wrap64 (-(wrap64 ((Go.bits .and .i64 a1 9007199254740991) - 4503599627370496)))) then ((float_Of.f (Go.bits .and .i64 a0 9007199254740991)).bind fun t214 => ((float_Of.f (wrap64 ((Go.bits .and .i64 a1 9007199254740991) - 4503599627370496))).bind fun t215 => ((float_Less.f t214 t215).bind fun t216 => (if (t216 == (decide ((Go.bits .and .i64 a0 9007199254740991) < (wrap64 ((Go.bits .and .i64 a1 9007199254740991) - 4503599627370496))))) = true then ((float_Of.f (Go.bits .and .i64 a0 9007199254740991)).bind fun t217 => ((float_Of.f (wrap64 ((Go.bits .and .i64 a1 9007199254740991) - 4503599627370496))).bind fun t218 => ((float_Equal.f t217 t218).bind fun t219 => (some (t219 == ((Go.bits .and .i64 a0 9007199254740991) == (wrap64 ((Go.bits .and .i64 a1 9007199254740991) - 4503599627370496)))))))) else (some false))))) else (some false)) else (some false)) else (some false)) else (some false)) else (some false)) else (some false)) else (some false)))))) = some r := H
  have A6 := Aside0.mk A60
  clear A60
  replace H := Option.bind_eq_some_iff.mp H
  obtain ⟨⟨t208, t209⟩, A70, H⟩ := H
  replace H : ((float_Of.f (wrap64 ((Go.bits .and .i64 a1 9007199254740991) - 4503599627370496))).bind fun t210 => ((float_Neg.f t210).bind fun t211 => ((float_Int.f t211).bind fun bt212 => (if t203 = true then (if t206 = true then (if t209 = true then (if bt212.2 = true then (if t205 = (Go.bits .and .i64 a0 9007199254740991) then (if t208 = (wrap64 ((Go.bits .and .i64 a1 9007199254740991) - 4503599627370496)) then (if bt212.1 = (wrap64 (-(wrap64 ((Go.bits .and .i64 a1 9007199254740991) - 4503599627370496)))) then ((float_Of.f (Go.bits .and .i64 a0 9007199254740991)).bind fun t214 => ((float_Of.f (wrap64 ((Go.bits .and .i64 a1 9007199254740991) - 4503599627370496))).bind fun t215 => ((float_Less.f t214 t215).bind fun t216 => (if (t216 == (decide ((Go.bits .and .i64 a0 9007199254740991) < (wrap64 ((Go.bits .and .i64 a1 9007199254740991) - 4503599627370496))))) = true then ((float_Of.f (Go.bits .and .i64 a0 9007199254740991)).bind fun t217 => ((float_Of.f (wrap64 ((Go.bits .and .i64 a1 9007199254740991) - 4503599627370496))).bind fun t218 => ((float_Equal.f t217 t218).bind fun t219 => (some (t219 == ((Go.bits .and .i64 a0 9007199254740991) == (wrap64 ((Go.bits .and .i64 a1 9007199254740991) - 4503599627370496)))))))) else (some false))))) else (some false)) else (some false)) else (some false)) else (some false)) else (some false)) else (some false)) else (some false))))) = some r := H
  have A7 := Aside0.mk A70
  clear A70
  replace H := Option.bind_eq_some_iff.mp H
  obtain ⟨t210, A80, H⟩ := H
  replace H : ((float_Neg.f t210).bind fun t211 => ((float_Int.f t211).bind fun bt212 => (if t203 = true then (if t206 = true then (if t209 = true then (if bt212.2 = true then (if t205 = (Go.bits .and .i64 a0 9007199254740991) then (if t208 = (wrap64 ((Go.bits .and .i64 a1 9007199254740991) - 4503599627370496)) then (if bt212.1 = (wrap64 (-(wrap64 ((Go.bits .and .i64 a1 9007199254740991) - 4503599627370496)))) then ((float_Of.f (Go.bits .and .i64 a0 9007199254740991)).bind fun t214 => ((float_Of.f (wrap64 ((Go.bits .and .i64 a1 9007199254740991) - 4503599627370496))).bind fun t215 => ((float_Less.f t214 t215).bind fun t216 => (if (t216 == (decide ((Go.bits .and .i64 a0 9007199254740991) < (wrap64 ((Go.bits .and .i64 a1 9007199254740991) - 4503599627370496))))) = true then ((float_Of.f (Go.bits .and .i64 a0 9007199254740991)).bind fun t217 => ((float_Of.f (wrap64 ((Go.bits .and .i64 a1 9007199254740991) - 4503599627370496))).bind fun t218 => ((float_Equal.f t217 t218).bind fun t219 => (some (t219 == ((Go.bits .and .i64 a0 9007199254740991) == (wrap64 ((Go.bits .and .i64 a1 9007199254740991) - 4503599627370496)))))))) else (some false))))) else (some false)) else (some false)) else (some false)) else (some false)) else (some false)) else (some false)) else (some false)))) = some r := H
  have A8 := Aside0.mk A80
  clear A80
  replace H := Option.bind_eq_some_iff.mp H
  obtain ⟨t211, A90, H⟩ := H
  replace H : ((float_Int.f t211).bind fun bt212 => (if t203 = true then (if t206 = true then (if t209 = true then (if bt212.2 = true then (if t205 = (Go.bits .and .i64 a0 9007199254740991) then (if t208 = (wrap64 ((Go.bits .and .i64 a1 9007199254740991) - 4503599627370496)) then (if bt212.1 = (wrap64 (-(wrap64 ((Go.bits .and .i64 a1 9007199254740991) - 4503599627370496)))) then ((float_Of.f (Go.bits .and .i64 a0 9007199254740991)).bind fun t214 => ((float_Of.f (wrap64 ((Go.bits .and .i64 a1 9007199254740991) - 4503599627370496))).bind fun t215 => ((float_Less.f t214 t215).bind fun t216 => (if (t216 == (decide ((Go.bits .and .i64 a0 9007199254740991) < (wrap64 ((Go.bits .and .i64 a1 9007199254740991) - 4503599627370496))))) = true then ((float_Of.f (Go.bits .and .i64 a0 9007199254740991)).bind fun t217 => ((float_Of.f (wrap64 ((Go.bits .and .i64 a1 9007199254740991) - 4503599627370496))).bind fun t218 => ((float_Equal.f t217 t218).bind fun t219 => (some (t219 == ((Go.bits .and .i64 a0 9007199254740991) == (wrap64 ((Go.bits .and .i64 a1 9007199254740991) - 4503599627370496)))))))) else (some false))))) else (some false)) else (some false)) else (some false)) else (some false)) else (some false)) else (some false)) else (some false))) = some r := H
  have A9 := Aside0.mk A90
  clear A90
  replace H := Option.bind_eq_some_iff.mp H
  obtain ⟨⟨t212, t213⟩, A100, H⟩ := H
  replace H : (if t203 = true then (if t206 = true then (if t209 = true then (if t213 = true then (if t205 = (Go.bits .and .i64 a0 9007199254740991) then (if t208 = (wrap64 ((Go.bits .and .i64 a1 9007199254740991) - 4503599627370496)) then (if t212 = (wrap64 (-(wrap64 ((Go.bits .and .i64 a1 9007199254740991) - 4503599627370496)))) then ((float_Of.f (Go.bits .and .i64 a0 9007199254740991)).bind fun t214 => ((float_Of.f (wrap64 ((Go.bits .and .i64 a1 9007199254740991) - 4503599627370496))).bind fun t215 => ((float_Less.f t214 t215).bind fun t216 => (if (t216 == (decide ((Go.bits .and .i64 a0 9007199254740991) < (wrap64 ((Go.bits .and .i64 a1 9007199254740991) - 4503599627370496))))) = true then ((float_Of.f (Go.bits .and .i64 a0 9007199254740991)).bind fun t217 => ((float_Of.f (wrap64 ((Go.bits .and .i64 a1 9007199254740991) - 4503599627370496))).bind fun t218 => ((float_Equal.f t217 t218).bind fun t219 => (some (t219 == ((Go.bits .and .i64 a0 9007199254740991) == (wrap64 ((Go.bits .and .i64 a1 9007199254740991) - 4503599627370496)))))))) else (some false))))) else (some false)) else (some false)) else (some false)) else (some false)) else (some false)) else (some false)) else (some false)) = some r := H
  have A10 := Aside0.mk A100
  clear A100
  by_cases c11 : t203 = true
  · subst c11
    have H1 : (if t206 = true then (if t209 = true then (if t213 = true then (if t205 = (Go.bits .and .i64 a0 9007199254740991) then (if t208 = (wrap64 ((Go.bits .and .i64 a1 9007199254740991) - 4503599627370496)) then (if t212 = (wrap64 (-(wrap64 ((Go.bits .and .i64 a1 9007199254740991) - 4503599627370496)))) then ((float_Of.f (Go.bits .and .i64 a0 9007199254740991)).bind fun t214 => ((float_Of.f (wrap64 ((Go.bits .and .i64 a1 9007199254740991) - 4503599627370496))).bind fun t215 => ((float_Less.f t214 t215).bind fun t216 => (if (t216 == (decide ((Go.bits .and .i64 a0 9007199254740991) < (wrap64 ((Go.bits .and .i64 a1 9007199254740991) - 4503599627370496))))) = true then ((float_Of.f (Go.bits .and .i64 a0 9007199254740991)).bind fun t217 => ((float_Of.f (wrap64 ((Go.bits .and .i64 a1 9007199254740991) - 4503599627370496))).bind fun t218 => ((float_Equal.f t217 t218).bind fun t219 => (some (t219 == ((Go.bits .and .i64 a0 9007199254740991) == (wrap64 ((Go.bits .and .i64 a1 9007199254740991) - 4503599627370496)))))))) else (some false))))) else (some false)) else (some false)) else (some false)) else (some false)) else (some false)) else (some false)) = some r := by rw [if_pos rfl] at H; exact H
    clear H
    have H := H1
    clear H1
    by_cases c12 : t206 = true
    · subst c12
      have H1 : (if t209 = true then (if t213 = true then (if t205 = (Go.bits .and .i64 a0 9007199254740991) then (if t208 = (wrap64 ((Go.bits .and .i64 a1 9007199254740991) - 4503599627370496)) then (if t212 = (wrap64 (-(wrap64 ((Go.bits .and .i64 a1 9007199254740991) - 4503599627370496)))) then ((float_Of.f (Go.bits .and .i64 a0 9007199254740991)).bind fun t214 => ((float_Of.f (wrap64 ((Go.bits .and .i64 a1 9007199254740991) - 4503599627370496))).bind fun t215 => ((float_Less.f t214 t215).bind fun t216 => (if (t216 == (decide ((Go.bits .and .i64 a0 9007199254740991) < (wrap64 ((Go.bits .and .i64 a1 9007199254740991) - 4503599627370496))))) = true then ((float_Of.f (Go.bits .and .i64 a0 9007199254740991)).bind fun t217 => ((float_Of.f (wrap64 ((Go.bits .and .i64 a1 9007199254740991) - 4503599627370496))).bind fun t218 => ((float_Equal.f t217 t218).bind fun t219 => (some (t219 == ((Go.bits .and .i64 a0 9007199254740991) == (wrap64 ((Go.bits .and .i64 a1 9007199254740991) - 4503599627370496)))))))) else (some false))))) else (some false)) else (some false)) else (some false)) else (some false)) else (some false)) = some r := by rw [if_pos rfl] at H; exact H
      clear H
      have H := H1
      clear H1
      by_cases c13 : t209 = true
      · subst c13
        have H1 : (if t213 = true then (if t205 = (Go.bits .and .i64 a0 9007199254740991) then (if t208 = (wrap64 ((Go.bits .and .i64 a1 9007199254740991) - 4503599627370496)) then (if t212 = (wrap64 (-(wrap64 ((Go.bits .and .i64 a1 9007199254740991) - 4503599627370496)))) then ((float_Of.f (Go.bits .and .i64 a0 9007199254740991)).bind fun t214 => ((float_Of.f (wrap64 ((Go.bits .and .i64 a1 9007199254740991) - 4503599627370496))).bind fun t215 => ((float_Less.f t214 t215).bind fun t216 => (if (t216 == (decide ((Go.bits .and .i64 a0 9007199254740991) < (wrap64 ((Go.bits .and .i64 a1 9007199254740991) - 4503599627370496))))) = true then ((float_Of.f (Go.bits .and .i64 a0 9007199254740991)).bind fun t217 => ((float_Of.f (wrap64 ((Go.bits .and .i64 a1 9007199254740991) - 4503599627370496))).bind fun t218 => ((float_Equal.f t217 t218).bind fun t219 => (some (t219 == ((Go.bits .and .i64 a0 9007199254740991) == (wrap64 ((Go.bits .and .i64 a1 9007199254740991) - 4503599627370496)))))))) else (some false))))) else (some false)) else (some false)) else (some false)) else (some false)) = some r := by rw [if_pos rfl] at H; exact H
        clear H
        have H := H1
        clear H1
        by_cases c14 : t213 = true
        · subst c14
          have H1 : (if t205 = (Go.bits .and .i64 a0 9007199254740991) then (if t208 = (wrap64 ((Go.bits .and .i64 a1 9007199254740991) - 4503599627370496)) then (if t212 = (wrap64 (-(wrap64 ((Go.bits .and .i64 a1 9007199254740991) - 4503599627370496)))) then ((float_Of.f (Go.bits .and .i64 a0 9007199254740991)).bind fun t214 => ((float_Of.f (wrap64 ((Go.bits .and .i64 a1 9007199254740991) - 4503599627370496))).bind fun t215 => ((float_Less.f t214 t215).bind fun t216 => (if (t216 == (decide ((Go.bits .and .i64 a0 9007199254740991) < (wrap64 ((Go.bits .and .i64 a1 9007199254740991) - 4503599627370496))))) = true then ((float_Of.f (Go.bits .and .i64 a0 9007199254740991)).bind fun t217 => ((float_Of.f (wrap64 ((Go.bits .and .i64 a1 9007199254740991) - 4503599627370496))).bind fun t218 => ((float_Equal.f t217 t218).bind fun t219 => (some (t219 == ((Go.bits .and .i64 a0 9007199254740991) == (wrap64 ((Go.bits .and .i64 a1 9007199254740991) - 4503599627370496)))))))) else (some false))))) else (some false)) else (some false)) else (some false)) = some r := by rw [if_pos rfl] at H; exact H
          clear H
          have H := H1
          clear H1
          by_cases c15 : t205 = (Go.bits .and .i64 a0 9007199254740991)
          · rw [if_pos c15] at H
            have c15b0 : (t205 == (Go.bits .and .i64 a0 9007199254740991)) = true := beq_iff_eq.mpr c15
            have c15b1 : (t205 != (Go.bits .and .i64 a0 9007199254740991)) = false := bne_eq_false_iff_eq.mpr c15
            clear c15
            by_cases c16 : t208 = (wrap64 ((Go.bits .and .i64 a1 9007199254740991) - 4503599627370496))
            · rw [if_pos c16] at H
              have c16b0 : (t208 == (wrap64 ((Go.bits .and .i64 a1 9007199254740991) - 4503599627370496))) = true := beq_iff_eq.mpr c16
              have c16b1 : (t208 != (wrap64 ((Go.bits .and .i64 a1 9007199254740991) - 4503599627370496))) = false := bne_eq_false_iff_eq.mpr c16
              clear c16
              by_cases c17 : t212 = (wrap64 (-(wrap64 ((Go.bits .and .i64 a1 9007199254740991) - 4503599627370496))))
              · rw [if_pos c17] at H
                have c17b0 : (t212 == (wrap64 (-(wrap64 ((Go.bits .and .i64 a1 9007199254740991) - 4503599627370496))))) = true := beq_iff_eq.mpr c17
                have c17b1 : (t212 != (wrap64 (-(wrap64 ((Go.bits .and .i64 a1 9007199254740991) - 4503599627370496))))) = false := bne_eq_false_iff_eq.mpr c17
                clear c17
                replace H := Option.bind_eq_some_iff.mp H
                obtain ⟨t214, A180, H⟩ := H
                replace H : ((float_Of.f (wrap64 ((Go.bits .and .i64 a1 9007199254740991) - 4503599627370496))).bind fun t215 => ((float_Less.f t214 t215).bind fun t216 => (if (t216 == (decide ((Go.bits .and .i64 a0 9007199254740991) < (wrap64 ((Go.bits .and .i64 a1 9007199254740991) - 4503599627370496))))) = true then ((float_Of.f (Go.bits .and .i64 a0 9007199254740991)).bind fun t217 => ((float_Of.f (wrap64 ((Go.bits .and .i64 a1 9007199254740991) - 4503599627370496))).bind fun t218 => ((float_Equal.f t217 t218).bind fun t219 => (some (t219 == ((Go.bits .and .i64 a0 9007199254740991) == (wrap64 ((Go.bits .and .i64 a1 9007199254740991) - 4503599627370496)))))))) else (some false)))) = some r := H
                have A18 := Aside0.mk A180
                clear A180
                replace H := Option.bind_eq_some_iff.mp H
                obtain ⟨t215, A190, H⟩ := H
                replace H : ((float_Less.f t214 t215).bind fun t216 => (if (t216 == (decide ((Go.bits .and .i64 a0 9007199254740991) < (wrap64 ((Go.bits .and .i64 a1 9007199254740991) - 4503599627370496))))) = true then ((float_Of.f (Go.bits .and .i64 a0 9007199254740991)).bind fun t217 => ((float_Of.f (wrap64 ((Go.bits .and .i64 a1 9007199254740991) - 4503599627370496))).bind fun t218 => ((float_Equal.f t217 t218).bind fun t219 => (some (t219 == ((Go.bits .and .i64 a0 9007199254740991) == (wrap64 ((Go.bits .and .i64 a1 9007199254740991) - 4503599627370496)))))))) else (some false))) = some r := H
                have A19 := Aside0.mk A190
                clear A190
                replace H := Option.bind_eq_some_iff.mp H
                obtain ⟨t216, A200, H⟩ := H
                replace H : (if (t216 == (decide ((Go.bits .and .i64 a0 9007199254740991) < (wrap64 ((Go.bits .and .i64 a1 9007199254740991) - 4503599627370496))))) = true then ((float_Of.f (Go.bits .and .i64 a0 9007199254740991)).bind fun t217 => ((float_Of.f (wrap64 ((Go.bits .and .i64 a1 9007199254740991) - 4503599627370496))).bind fun t218 => ((float_Equal.f t217 t218).bind fun t219 => (some (t219 == ((Go.bits .and .i64 a0 9007199254740991) == (wrap64 ((Go.bits .and .i64 a1 9007199254740991) - 4503599627370496)))))))) else (some false)) = some r := H
                have A20 := Aside0.mk A200
                clear A200
                by_cases c21 : (t216 == (decide ((Go.bits .and .i64 a0 9007199254740991) < (wrap64 ((Go.bits .and .i64 a1 9007199254740991) - 4503599627370496))))) = true
                · rw [if_pos c21] at H
                  have c21b0 : (t216 == (decide ((Go.bits .and .i64 a0 9007199254740991) < (wrap64 ((Go.bits .and .i64 a1 9007199254740991) - 4503599627370496))))) = true := c21
                  (try (have c21b1 : decide (t216 = (decide ((Go.bits .and .i64 a0 9007199254740991) < (wrap64 ((Go.bits .and .i64 a1 9007199254740991) - 4503599627370496))))) = true := by simpa using c21))
                  (try (have c21b2 : (t216 == (decide ((Go.bits .and .i64 a0 9007199254740991) < (wrap64 ((Go.bits .and .i64 a1 9007199254740991) - 4503599627370496))))) = true := by simpa using c21))
                  clear c21
                  replace H := Option.bind_eq_some_iff.mp H
                  obtain ⟨t217, A220, H⟩ := H
                  replace H : ((float_Of.f (wrap64 ((Go.bits .and .i64 a1 9007199254740991) - 4503599627370496))).bind fun t218 => ((float_Equal.f t217 t218).bind fun t219 => (some (t219 == ((Go.bits .and .i64 a0 9007199254740991) == (wrap64 ((Go.bits .and .i64 a1 9007199254740991) - 4503599627370496))))))) = some r := H
                  have A22 := Aside0.mk A220
                  clear A220
                  replace H := Option.bind_eq_some_iff.mp H
                  obtain ⟨t218, A230, H⟩ := H
                  replace H : ((float_Equal.f t217 t218).bind fun t219 => (some (t219 == ((Go.bits .and .i64 a0 9007199254740991) == (wrap64 ((Go.bits .and .i64 a1 9007199254740991) - 4503599627370496)))))) = some r := H
                  have A23 := Aside0.mk A230
                  clear A230
                  replace H := Option.bind_eq_some_iff.mp H
                  obtain ⟨t219, A240, H⟩ := H
                  replace H : (some (t219 == ((Go.bits .and .i64 a0 9007199254740991) == (wrap64 ((Go.bits .and .i64 a1 9007199254740991) - 4503599627370496))))) = some r := H
                  have A24 := Aside0.mk A240
                  clear A240
                  obtain rfl := Option.some.inj H
                  have e217 : t214 = t217 := Option.some.inj (A18.out.symm.trans A22.out)
                  have e218 : t215 = t218 := Option.some.inj (A19.out.symm.trans A23.out)
                  subst e217 e218
                  go_enter Try.func7, Try.ntmps7
                  go_wp2_with (first | ((with_reducible refine gate_callee (f := 11) rfl ?_); refine goesL_ (some 14) rfl rfl Try.func11 (by kernel_rfl) rfl #[] rfl (by (try simp only [List.map_toArray, List.map_cons, List.map_nil]); first | done | rfl | (simp only [List.length_drop, List.length_take]; rfl)) ?_; (with_reducible refine (heronrylaw02_awake.calls  true _ A3.out).mono ?_); rintro e w' ⟨rfl, ⟨nd, rfl⟩⟩; refine ⟨_, rfl, ?_⟩) | ((with_reducible refine gate_callee (f := 26) rfl ?_); refine goesL_ (some 22) rfl rfl Try.func26 (by kernel_rfl) rfl #[.int .i64 (Go.bits .and .i64 a0 9007199254740991)] rfl (by (try simp only [List.map_toArray, List.map_cons, List.map_nil]); first | done | rfl | (simp only [List.length_drop, List.length_take]; rfl)) ?_; (with_reducible refine (float_Of.calls (Go.bits .and .i64 a0 9007199254740991) t204 _ A4.out).mono ?_); rintro e w' ⟨rfl, ⟨nd, rfl⟩⟩; refine ⟨_, rfl, ?_⟩) | ((with_reducible refine gate_callee (f := 25) rfl ?_); refine goesL_ (some 23) rfl rfl Try.func25 (by kernel_rfl) rfl #[.int .u64 t204] rfl (by (try simp only [List.map_toArray, List.map_cons, List.map_nil]); first | done | rfl | (simp only [List.length_drop, List.length_take]; rfl)) ?_; (with_reducible refine (float_Int.calls t204 t205 true _ A5.out).mono ?_); rintro e w' ⟨rfl, ⟨nd, rfl⟩⟩; refine ⟨_, rfl, ?_⟩) | ((with_reducible refine gate_callee (f := 26) rfl ?_); refine goesL_ (some 28) rfl rfl Try.func26 (by kernel_rfl) rfl #[.int .i64 (wrap64 ((Go.bits .and .i64 a1 9007199254740991) - 4503599627370496))] rfl (by (try simp only [List.map_toArray, List.map_cons, List.map_nil]); first | done | rfl | (simp only [List.length_drop, List.length_take]; rfl)) ?_; (with_reducible refine (float_Of.calls (wrap64 ((Go.bits .and .i64 a1 9007199254740991) - 4503599627370496)) t207 _ A6.out).mono ?_); rintro e w' ⟨rfl, ⟨nd, rfl⟩⟩; refine ⟨_, rfl, ?_⟩) | ((with_reducible refine gate_callee (f := 25) rfl ?_); refine goesL_ (some 29) rfl rfl Try.func25 (by kernel_rfl) rfl #[.int .u64 t207] rfl (by (try simp only [List.map_toArray, List.map_cons, List.map_nil]); first | done | rfl | (simp only [List.length_drop, List.length_take]; rfl)) ?_; (with_reducible refine (float_Int.calls t207 t208 true _ A7.out).mono ?_); rintro e w' ⟨rfl, ⟨nd, rfl⟩⟩; refine ⟨_, rfl, ?_⟩) | ((with_reducible refine gate_callee (f := 26) rfl ?_); refine goesL_ (some 34) rfl rfl Try.func26 (by kernel_rfl) rfl #[.int .i64 (wrap64 ((Go.bits .and .i64 a1 9007199254740991) - 4503599627370496))] rfl (by (try simp only [List.map_toArray, List.map_cons, List.map_nil]); first | done | rfl | (simp only [List.length_drop, List.length_take]; rfl)) ?_; (with_reducible refine (float_Of.calls (wrap64 ((Go.bits .and .i64 a1 9007199254740991) - 4503599627370496)) t210 _ A8.out).mono ?_); rintro e w' ⟨rfl, ⟨nd, rfl⟩⟩; refine ⟨_, rfl, ?_⟩) | ((with_reducible refine gate_callee (f := 27) rfl ?_); refine goesL_ (some 35) rfl rfl Try.func27 (by kernel_rfl) rfl #[.int .u64 t210] rfl (by (try simp only [List.map_toArray, List.map_cons, List.map_nil]); first | done | rfl | (simp only [List.length_drop, List.length_take]; rfl)) ?_; (with_reducible refine (float_Neg.calls t210 t211 _ A9.out).mono ?_); rintro e w' ⟨rfl, ⟨nd, rfl⟩⟩; refine ⟨_, rfl, ?_⟩) | ((with_reducible refine gate_callee (f := 25) rfl ?_); refine goesL_ (some 36) rfl rfl Try.func25 (by kernel_rfl) rfl #[.int .u64 t211] rfl (by (try simp only [List.map_toArray, List.map_cons, List.map_nil]); first | done | rfl | (simp only [List.length_drop, List.length_take]; rfl)) ?_; (with_reducible refine (float_Int.calls t211 t212 true _ A10.out).mono ?_); rintro e w' ⟨rfl, ⟨nd, rfl⟩⟩; refine ⟨_, rfl, ?_⟩) | (go_at_call 26; (with_reducible refine (float_Of.calls (Go.bits .and .i64 a0 9007199254740991) t214 _ A18.out).mono ?_); rintro e w' ⟨rfl, ⟨nd, rfl⟩⟩) | (go_at_call 26; (with_reducible refine (float_Of.calls (wrap64 ((Go.bits .and .i64 a1 9007199254740991) - 4503599627370496)) t215 _ A19.out).mono ?_); rintro e w' ⟨rfl, ⟨nd, rfl⟩⟩) | (go_at_call 15; (with_reducible refine (float_Less.calls t214 t215 t216 _ A20.out).mono ?_); rintro e w' ⟨rfl, ⟨nd, rfl⟩⟩) | (go_at_call 26; (with_reducible refine (float_Of.calls (Go.bits .and .i64 a0 9007199254740991) t214 _ A22.out).mono ?_); rintro e w' ⟨rfl, ⟨nd, rfl⟩⟩) | (go_at_call 26; (with_reducible refine (float_Of.calls (wrap64 ((Go.bits .and .i64 a1 9007199254740991) - 4503599627370496)) t215 _ A23.out).mono ?_); rintro e w' ⟨rfl, ⟨nd, rfl⟩⟩) | (go_at_call 16; (with_reducible refine (float_Equal.calls t214 t215 t219 _ A24.out).mono ?_); rintro e w' ⟨rfl, ⟨nd, rfl⟩⟩))
                  go_ret
                  exact ⟨by first | rfl | (simp; done) | (simp [*]; done), by repeat (first | exact Drawn0.refl _ | apply Drawn0.step)⟩
                · rw [if_neg c21] at H
                  have c21b0 : (t216 == (decide ((Go.bits .and .i64 a0 9007199254740991) < (wrap64 ((Go.bits .and .i64 a1 9007199254740991) - 4503599627370496))))) = false := by simpa using c21
                  (try (have c21b1 : decide (t216 = (decide ((Go.bits .and .i64 a0 9007199254740991) < (wrap64 ((Go.bits .and .i64 a1 9007199254740991) - 4503599627370496))))) = false := by simpa using c21))
                  (try (have c21b2 : (t216 == (decide ((Go.bits .and .i64 a0 9007199254740991) < (wrap64 ((Go.bits .and .i64 a1 9007199254740991) - 4503599627370496))))) = false := by simpa using c21))
                  (try (have c21b3 : ¬ (t216 = (decide ((Go.bits .and .i64 a0 9007199254740991) < (wrap64 ((Go.bits .and .i64 a1 9007199254740991) - 4503599627370496))))) := by simpa using c21))
                  clear c21
                  obtain rfl := Option.some.inj H
                  exact absurd hT_.out (by decide)
              · rw [if_neg c17] at H
                have c17b0 : (t212 == (wrap64 (-(wrap64 ((Go.bits .and .i64 a1 9007199254740991) - 4503599627370496))))) = false := beq_eq_false_iff_ne.mpr c17
                have c17b1 : (t212 != (wrap64 (-(wrap64 ((Go.bits .and .i64 a1 9007199254740991) - 4503599627370496))))) = true := bne_iff_ne.mpr c17
                obtain rfl := Option.some.inj H
                exact absurd hT_.out (by decide)
            · rw [if_neg c16] at H
              have c16b0 : (t208 == (wrap64 ((Go.bits .and .i64 a1 9007199254740991) - 4503599627370496))) = false := beq_eq_false_iff_ne.mpr c16
              have c16b1 : (t208 != (wrap64 ((Go.bits .and .i64 a1 9007199254740991) - 4503599627370496))) = true := bne_iff_ne.mpr c16
              obtain rfl := Option.some.inj H
              exact absurd hT_.out (by decide)
          · rw [if_neg c15] at H
            have c15b0 : (t205 == (Go.bits .and .i64 a0 9007199254740991)) = false := beq_eq_false_iff_ne.mpr c15
            have c15b1 : (t205 != (Go.bits .and .i64 a0 9007199254740991)) = true := bne_iff_ne.mpr c15
            obtain rfl := Option.some.inj H
            exact absurd hT_.out (by decide)
        · replace c14 := Bool.eq_false_iff.mpr c14
          subst c14
          have H1 : (some false) = some r := by rw [if_neg (show ¬ (false = true) by decide)] at H; exact H
          clear H
          have H := H1
          clear H1
          obtain rfl := Option.some.inj H
          exact absurd hT_.out (by decide)
      · replace c13 := Bool.eq_false_iff.mpr c13
        subst c13
        have H1 : (some false) = some r := by rw [if_neg (show ¬ (false = true) by decide)] at H; exact H
        clear H
        have H := H1
        clear H1
        obtain rfl := Option.some.inj H
        exact absurd hT_.out (by decide)
    · replace c12 := Bool.eq_false_iff.mpr c12
      subst c12
      have H1 : (some false) = some r := by rw [if_neg (show ¬ (false = true) by decide)] at H; exact H
      clear H
      have H := H1
      clear H1
      obtain rfl := Option.some.inj H
      exact absurd hT_.out (by decide)
  · replace c11 := Bool.eq_false_iff.mpr c11
    subst c11
    have H1 : (some false) = some r := by rw [if_neg (show ¬ (false = true) by decide)] at H; exact H
    clear H
    have H := H1
    clear H1
    obtain rfl := Option.some.inj H
    exact absurd hT_.out (by decide)

/-- THE ONE PURE STATEMENT of heronrylaw02_FloatWhole: yours. -/
def heronrylaw02_FloatWhole.Pure : Prop := ∀ (a0 : Int) (a1 : Int), (Lit.int .i64 a0).wf = true → (Lit.int .i64 a1).wf = true → heronrylaw02_FloatWhole.f a0 a1 = some true
theorem heronrylaw02_FloatWhole.walk (P : heronrylaw02_FloatWhole.Pure) (a0 : Int) (a1 : Int) (w : World) (w0 : (Lit.int .i64 a0).wf = true) (w1 : (Lit.int .i64 a1).wf = true) :
    Calls Try.prog 7 #[.int .i64 a0, .int .i64 a1] w fun e w' => e = .returned (.bool true) ∧ Below w.heap.size w w' := by
  have h := P a0 a1 w0 w1
  refine (heronrylaw02_FloatWhole.calls a0 a1 true w ⟨rfl⟩ h).mono ?_
  rintro e w' ⟨rfl, hd⟩
  exact ⟨rfl, hd.below⟩

/-! ### float_Abs: function 28 -/
def float_Abs.f (a0 : Int) : Option (Int) := some (Go.bits .andNot .u64 a0 9223372036854775808)
set_option maxHeartbeats 8000000 in
set_option maxRecDepth 100000 in
theorem float_Abs.calls (a0 : Int) (r : Int) (w : World) (h : float_Abs.f a0 = some r) :
    Calls Try.prog 28 #[.int .u64 a0] w fun e w' => e = .returned (.int .u64 r) ∧ Drawn0 w w' := by
  have H : (some (Go.bits .andNot .u64 a0 9223372036854775808)) = some r := h
  clear h
  obtain rfl := Option.some.inj H
  go_enter Try.func28, Try.ntmps28
  go_wp2
  go_ret
  exact ⟨by first | rfl | (simp; done) | (simp [*]; done), by repeat (first | exact Drawn0.refl _ | apply Drawn0.step)⟩

end Go.Proofs.Ytkcoabnghdlboaa.Q
