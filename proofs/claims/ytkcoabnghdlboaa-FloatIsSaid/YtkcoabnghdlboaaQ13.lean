-- Written by hprint.py (the kit's printer, with functions that are given). Lean checks it.
import Derived.Test.YtkcoabnghdlboaaQ0
import Derived.Test.YtkcoabnghdlboaaQ1
import Derived.Test.YtkcoabnghdlboaaQ3
import Derived.Test.YtkcoabnghdlboaaQ4
import Derived.Test.YtkcoabnghdlboaaQ7
import Derived.Test.YtkcoabnghdlboaaQ10
import Derived.Test.YtkcoabnghdlboaaQ11
import Derived.Test.YtkcoabnghdlboaaQ12
import Derived.Test.YtkcoabnghdlboaaH6
namespace Go.Proofs.Ytkcoabnghdlboaa.Q
open Go.RowKit Go.Proofs.YtkcoabnghdlboaaW.PrintWords Go.Proofs.YtkcoabnghdlboaaW.PrintLast Go.Proofs.YtkcoabnghdlboaaW.PrintMore
attribute [local go_sem] max2_int min2_int max_two min_two max_three min_three max_four min_four   -- for this text's walks alone
set_option linter.unusedVariables false
set_option linter.unusedSimpArgs false

/-! ### heronrylaw02_FloatIs: function 10 -/
def heronrylaw02_FloatIs.f (k : Nat) (a0 : Int) (a1 : Int) : Option (Bool) := (heronrylaw02_awake.f).bind fun t267 => ((float_Int.f a0).bind fun bt268 => ((heronryref02_Int.f k a0).bind fun bt270 => (if t267 = true then ((float_Class.f a0).bind fun t272 => ((heronryref02_Class.f a0).bind fun t273 => (if t272 = t273 then ((float_Key.f a0).bind fun t274 => ((heronryref02_Key.f a0).bind fun t275 => (if t274 = t275 then ((float_FromKey.f a0).bind fun t276 => ((heronryref02_FromKey.f a0).bind fun t277 => (if t276 = t277 then ((float_Neg.f a0).bind fun t278 => ((heronryref02_Neg.f a0).bind fun t279 => (if t278 = t279 then ((float_Abs.f a0).bind fun t280 => ((heronryref02_Abs.f a0).bind fun t281 => (if t280 = t281 then (if bt268.1 = bt270.1 then (if (bt268.2 == bt270.2) = true then ((float_Next.f a0).bind fun t282 => ((heronryref02_Next.f k a0).bind fun t283 => (if t282 = t283 then ((float_Of.f a1).bind fun t284 => ((heronryref02_Of.f k a1).bind fun t285 => (some (t284 == t285)))) else (some false)))) else (some false)) else (some false)) else (some false)))) else (some false)))) else (some false)))) else (some false)))) else (some false)))) else (some false))))
theorem heronrylaw02_FloatIs.mono : ∀ a0 a1 k, LeO (heronrylaw02_FloatIs.f k a0 a1) (heronrylaw02_FloatIs.f (k + 1) a0 a1) := by
  intro a0 a1 k
  unfold heronrylaw02_FloatIs.f
  repeat' first
      | (with_reducible exact heronryref02_Int.mono _ _)
      | (with_reducible exact heronryref02_Next.mono _ _)
      | (with_reducible exact heronryref02_Of.mono _ _)
      | (with_reducible exact LeO.refl _)
      | (with_reducible exact LeO.none _)
      | (with_reducible refine LeO.ite ?_ ?_)
      | (with_reducible refine LeO.bind ?_ (fun _ => ?_))
      | exact heronryref02_Int.mono _ _
      | exact heronryref02_Next.mono _ _
      | exact heronryref02_Of.mono _ _
      | exact LeO.none _
      | refine LeO.ite ?_ ?_
      | refine LeO.bind ?_ (fun _ => ?_)
set_option maxHeartbeats 8000000 in
set_option maxRecDepth 100000 in
theorem heronrylaw02_FloatIs.calls (k : Nat) (a0 : Int) (a1 : Int) (r : Bool) (w : World) (hT_ : Aside0 (r = true)) (h : heronrylaw02_FloatIs.f k a0 a1 = some r) :
    Calls Try.prog 10 #[.int .u64 a0, .int .i64 a1] w fun e w' => e = .returned (.bool r) ∧ Drawn0 w w' := by
  have H : ((heronrylaw02_awake.f).bind fun t267 => ((float_Int.f a0).bind fun bt268 => ((heronryref02_Int.f k a0).bind fun bt270 => (if t267 = true then ((float_Class.f a0).bind fun t272 => ((heronryref02_Class.f a0).bind fun t273 => (if t272 = t273 then ((float_Key.f a0).bind fun t274 => ((heronryref02_Key.f a0).bind fun t275 => (if t274 = t275 then ((float_FromKey.f a0).bind fun t276 => ((heronryref02_FromKey.f a0).bind fun t277 => (if t276 = t277 then ((float_Neg.f a0).bind fun t278 => ((heronryref02_Neg.f a0).bind fun t279 => (if t278 = t279 then ((float_Abs.f a0).bind fun t280 => ((heronryref02_Abs.f a0).bind fun t281 => (if t280 = t281 then (if bt268.1 = bt270.1 then (if (bt268.2 == bt270.2) = true then ((float_Next.f a0).bind fun t282 => ((heronryref02_Next.f k a0).bind fun t283 => (if t282 = t283 then ((float_Of.f a1).bind fun t284 => ((heronryref02_Of.f k a1).bind fun t285 => (some (t284 == t285)))) else (some false)))) else (some false)) else (some false)) else (some false)))) else (some false)))) else (some false)))) else (some false)))) else (some false)))) else (some false))))) = some r := h
  clear h
  replace H := Option.bind_eq_some_iff.mp H
  obtain ⟨t267, A30, H⟩ := H
  replace H : ((float_Int.f a0).bind fun bt268 => ((heronryref02_Int.f k a0).bind fun bt270 => (if t267 = true then ((float_Class.f a0).bind fun t272 => ((heronryref02_Class.f a0).bind fun t273 => (if t272 = t273 then ((float_Key.f a0).bind fun t274 => ((heronryref02_Key.f a0).bind fun t275 => (if t274 = t275 then ((float_FromKey.f a0).bind fun t276 => ((heronryref02_FromKey.f a0).bind fun t277 => (if t276 = t277 then ((float_Neg.f a0).bind fun t278 => ((heronryref02_Neg.f a0).bind fun t279 => (if t278 = t279 then ((float_Abs.f a0).bind fun t280 => ((heronryref02_Abs.f a0).bind fun t281 => (if t280 = t281 then (if bt268.1 = bt270.1 then (if (bt268.2 == bt270.2) = true then ((float_Next.f a0).bind fun t282 => ((heronryref02_Next.f k a0).bind fun t283 => (if t282 = t283 then ((float_Of.f a1).bind fun t284 => ((heronryref02_Of.f k a1).bind fun t285 => (some (t284 == t285)))) else (some false)))) else (some false)) else (some false)) else (some false)))) else (some false)))) else (some false)))) else (some false)))) else (some false)))) else (some false)))) = some r := H
  have A3 := Aside0.mk A30
  clear A30
  replace H := Option.bind_eq_some_iff.mp H
  obtain ⟨⟨t268, t269⟩, A40, H⟩ := H
  replace H : ((heronryref02_Int.f k a0).bind fun bt270 => (if t267 = true then ((float_Class.f a0).bind fun t272 => ((heronryref02_Class.f a0).bind fun t273 => (if t272 = t273 then ((float_Key.f a0).bind fun t274 => ((heronryref02_Key.f a0).bind fun t275 => (if t274 = t275 then ((float_FromKey.f a0).bind fun t276 => ((heronryref02_FromKey.f a0).bind fun t277 => (if t276 = t277 then ((float_Neg.f a0).bind fun t278 => ((heronryref02_Neg.f a0).bind fun t279 => (if t278 = t279 then ((float_Abs.f a0).bind fun t280 => ((heronryref02_Abs.f a0).bind fun t281 => (if t280 = t281 then (if t268 = bt270.1 then (if (t269 == bt270.2) = true then ((float_Next.f a0).bind fun t282 => ((heronryref02_Next.f k a0).bind fun t283 => (if t282 = t283 then ((float_Of.f a1).bind fun t284 => ((heronryref02_Of.f k a1).bind fun t285 => (some (t284 == t285)))) else (some false)))) else (some false)) else (some false)) else (some false)))) else (some false)))) else (some false)))) else (some false)))) else (some false)))) else (some false))) = some r := H
  have A4 := Aside0.mk A40
  clear A40
  replace H := Option.bind_eq_some_iff.mp H
  obtain ⟨⟨t270, t271⟩, A50, H⟩ := H
  replace H : (if t267 = true then ((float_Class.f a0).bind fun t272 => ((heronryref02_Class.f a0).bind fun t273 => (if t272 = t273 then ((float_Key.f a0).bind fun t274 => ((heronryref02_Key.f a0).bind fun t275 => (if t274 = t275 then ((float_FromKey.f a0).bind fun t276 => ((heronryref02_FromKey.f a0).bind fun t277 => (if t276 = t277 then ((float_Neg.f a0).bind fun t278 => ((heronryref02_Neg.f a0).bind fun t279 => (if t278 = t279 then ((float_Abs.f a0).bind fun t280 => ((heronryref02_Abs.f a0).bind fun t281 => (if t280 = t281 then (if t268 = t270 then (if (t269 == t271) = true then ((float_Next.f a0).bind fun t282 => ((heronryref02_Next.f k a0).bind fun t283 => (if t282 = t283 then ((float_Of.f a1).bind fun t284 => ((heronryref02_Of.f k a1).bind fun t285 => (some (t284 == t285)))) else (some false)))) else (some false)) else (some false)) else (some false)))) else (some false)))) else (some false)))) else (some false)))) else (some false)))) else (some false)) = some r := H
  have A5 := Aside0.mk A50
  clear A50
  by_cases c6 : t267 = true
  · subst c6
    have H1 : ((float_Class.f a0).bind fun t272 => ((heronryref02_Class.f a0).bind fun t273 => (if t272 = t273 then ((float_Key.f a0).bind fun t274 => ((heronryref02_Key.f a0).bind fun t275 => (if t274 = t275 then ((float_FromKey.f a0).bind fun t276 => ((heronryref02_FromKey.f a0).bind fun t277 => (if t276 = t277 then ((float_Neg.f a0).bind fun t278 => ((heronryref02_Neg.f a0).bind fun t279 => (if t278 = t279 then ((float_Abs.f a0).bind fun t280 => ((heronryref02_Abs.f a0).bind fun t281 => (if t280 = t281 then (if t268 = t270 then (if (t269 == t271) = true then ((float_Next.f a0).bind fun t282 => ((heronryref02_Next.f k a0).bind fun t283 => (if t282 = t283 then ((float_Of.f a1).bind fun t284 => ((heronryref02_Of.f k a1).bind fun t285 => (some (t284 == t285)))) else (some false)))) else (some false)) else (some false)) else (some false)))) else (some false)))) else (some false)))) else (some false)))) else (some false)))) = some r := by rw [if_pos rfl] at H; exact H
    clear H
    have H := H1
    clear H1
    replace H := Option.bind_eq_some_iff.mp H
    obtain ⟨t272, A70, H⟩ := H
    replace H : ((heronryref02_Class.f a0).bind fun t273 => (if t272 = t273 then ((float_Key.f a0).bind fun t274 => ((heronryref02_Key.f a0).bind fun t275 => (if t274 = t275 then ((float_FromKey.f a0).bind fun t276 => ((heronryref02_FromKey.f a0).bind fun t277 => (if t276 = t277 then ((float_Neg.f a0).bind fun t278 => ((heronryref02_Neg.f a0).bind fun t279 => (if t278 = t279 then ((float_Abs.f a0).bind fun t280 => ((heronryref02_Abs.f a0).bind fun t281 => (if t280 = t281 then (if t268 = t270 then (if (t269 == t271) = true then ((float_Next.f a0).bind fun t282 => ((heronryref02_Next.f k a0).bind fun t283 => (if t282 = t283 then ((float_Of.f a1).bind fun t284 => ((heronryref02_Of.f k a1).bind fun t285 => (some (t284 == t285)))) else (some false)))) else (some false)) else (some false)) else (some false)))) else (some false)))) else (some false)))) else (some false)))) else (some false))) = some r := H
    have A7 := Aside0.mk A70
    clear A70
    replace H := Option.bind_eq_some_iff.mp H
    obtain ⟨t273, A80, H⟩ := H
    replace H : (if t272 = t273 then ((float_Key.f a0).bind fun t274 => ((heronryref02_Key.f a0).bind fun t275 => (if t274 = t275 then ((float_FromKey.f a0).bind fun t276 => ((heronryref02_FromKey.f a0).bind fun t277 => (if t276 = t277 then ((float_Neg.f a0).bind fun t278 => ((heronryref02_Neg.f a0).bind fun t279 => (if t278 = t279 then ((float_Abs.f a0).bind fun t280 => ((heronryref02_Abs.f a0).bind fun t281 => (if t280 = t281 then (if t268 = t270 then (if (t269 == t271) = true then ((float_Next.f a0).bind fun t282 => ((heronryref02_Next.f k a0).bind fun t283 => (if t282 = t283 then ((float_Of.f a1).bind fun t284 => ((heronryref02_Of.f k a1).bind fun t285 => (some (t284 == t285)))) else (some false)))) else (some false)) else (some false)) else (some false)))) else (some false)))) else (some false)))) else (some false)))) else (some false)) = some r := H
    have A8 := Aside0.mk A80
    clear A80
    by_cases c9 : t272 = t273
    · rw [if_pos c9] at H
      have c9b0 : (t272 == t273) = true := beq_iff_eq.mpr c9
      have c9b1 : (t272 != t273) = false := bne_eq_false_iff_eq.mpr c9
      clear c9
      replace H := Option.bind_eq_some_iff.mp H
      obtain ⟨t274, A100, H⟩ := H
      replace H : ((heronryref02_Key.f a0).bind fun t275 => (if t274 = t275 then ((float_FromKey.f a0).bind fun t276 => ((heronryref02_FromKey.f a0).bind fun t277 => (if t276 = t277 then ((float_Neg.f a0).bind fun t278 => ((heronryref02_Neg.f a0).bind fun t279 => (if t278 = t279 then ((float_Abs.f a0).bind fun t280 => ((heronryref02_Abs.f a0).bind fun t281 => (if t280 = t281 then (if t268 = t270 then (if (t269 == t271) = true then ((float_Next.f a0).bind fun t282 => ((heronryref02_Next.f k a0).bind fun t283 => (if t282 = t283 then ((float_Of.f a1).bind fun t284 => ((heronryref02_Of.f k a1).bind fun t285 => (some (t284 == t285)))) else (some false)))) else (some false)) else (some false)) else (some false)))) else (some false)))) else (some false)))) else (some false))) = some r := H
      have A10 := Aside0.mk A100
      clear A100
      replace H := Option.bind_eq_some_iff.mp H
      obtain ⟨t275, A110, H⟩ := H
      replace H : (if t274 = t275 then ((float_FromKey.f a0).bind fun t276 => ((heronryref02_FromKey.f a0).bind fun t277 => (if t276 = t277 then ((float_Neg.f a0).bind fun t278 => ((heronryref02_Neg.f a0).bind fun t279 => (if t278 = t279 then ((float_Abs.f a0).bind fun t280 => ((heronryref02_Abs.f a0).bind fun t281 => (if t280 = t281 then (if t268 = t270 then (if (t269 == t271) = true then ((float_Next.f a0).bind fun t282 => ((heronryref02_Next.f k a0).bind fun t283 => (if t282 = t283 then ((float_Of.f a1).bind fun t284 => ((heronryref02_Of.f k a1).bind fun t285 => (some (t284 == t285)))) else (some false)))) else (some false)) else (some false)) else (some false)))) else (some false)))) else (some false)))) else (some false)) = some r := H
      have A11 := Aside0.mk A110
      clear A110
      by_cases c12 : t274 = t275
      · rw [if_pos c12] at H
        have c12b0 : (t274 == t275) = true := beq_iff_eq.mpr c12
        have c12b1 : (t274 != t275) = false := bne_eq_false_iff_eq.mpr c12
        clear c12
        replace H := Option.bind_eq_some_iff.mp H
        obtain ⟨t276, A130, H⟩ := H
        replace H : ((heronryref02_FromKey.f a0).bind fun t277 => (if t276 = t277 then ((float_Neg.f a0).bind fun t278 => ((heronryref02_Neg.f a0).bind fun t279 => (if t278 = t279 then ((float_Abs.f a0).bind fun t280 => ((heronryref02_Abs.f a0).bind fun t281 => (if t280 = t281 then (if t268 = t270 then (if (t269 == t271) = true then ((float_Next.f a0).bind fun t282 => ((heronryref02_Next.f k a0).bind fun t283 => (if t282 = t283 then ((float_Of.f a1).bind fun t284 => ((heronryref02_Of.f k a1).bind fun t285 => (some (t284 == t285)))) else (some false)))) else (some false)) else (some false)) else (some false)))) else (some false)))) else (some false))) = some r := H
        have A13 := Aside0.mk A130
        clear A130
        replace H := Option.bind_eq_some_iff.mp H
        obtain ⟨t277, A140, H⟩ := H
        replace H : (if t276 = t277 then ((float_Neg.f a0).bind fun t278 => ((heronryref02_Neg.f a0).bind fun t279 => (if t278 = t279 then ((float_Abs.f a0).bind fun t280 => ((heronryref02_Abs.f a0).bind fun t281 => (if t280 = t281 then (if t268 = t270 then (if (t269 == t271) = true then ((float_Next.f a0).bind fun t282 => ((heronryref02_Next.f k a0).bind fun t283 => (if t282 = t283 then ((float_Of.f a1).bind fun t284 => ((heronryref02_Of.f k a1).bind fun t285 => (some (t284 == t285)))) else (some false)))) else (some false)) else (some false)) else (some false)))) else (some false)))) else (some false)) = some r := H
        have A14 := Aside0.mk A140
        clear A140
        by_cases c15 : t276 = t277
        · rw [if_pos c15] at H
          have c15b0 : (t276 == t277) = true := beq_iff_eq.mpr c15
          have c15b1 : (t276 != t277) = false := bne_eq_false_iff_eq.mpr c15
          clear c15
          replace H := Option.bind_eq_some_iff.mp H
          obtain ⟨t278, A160, H⟩ := H
          replace H : ((heronryref02_Neg.f a0).bind fun t279 => (if t278 = t279 then ((float_Abs.f a0).bind fun t280 => ((heronryref02_Abs.f a0).bind fun t281 => (if t280 = t281 then (if t268 = t270 then (if (t269 == t271) = true then ((float_Next.f a0).bind fun t282 => ((heronryref02_Next.f k a0).bind fun t283 => (if t282 = t283 then ((float_Of.f a1).bind fun t284 => ((heronryref02_Of.f k a1).bind fun t285 => (some (t284 == t285)))) else (some false)))) else (some false)) else (some false)) else (some false)))) else (some false))) = some r := H
          have A16 := Aside0.mk A160
          clear A160
          replace H := Option.bind_eq_some_iff.mp H
          obtain ⟨t279, A170, H⟩ := H
          replace H : (if t278 = t279 then ((float_Abs.f a0).bind fun t280 => ((heronryref02_Abs.f a0).bind fun t281 => (if t280 = t281 then (if t268 = t270 then (if (t269 == t271) = true then ((float_Next.f a0).bind fun t282 => ((heronryref02_Next.f k a0).bind fun t283 => (if t282 = t283 then ((float_Of.f a1).bind fun t284 => ((heronryref02_Of.f k a1).bind fun t285 => (some (t284 == t285)))) else (some false)))) else (some false)) else (some false)) else (some false)))) else (some false)) = some r := H
          have A17 := Aside0.mk A170
          clear A170
          by_cases c18 : t278 = t279
          · rw [if_pos c18] at H
            have c18b0 : (t278 == t279) = true := beq_iff_eq.mpr c18
            have c18b1 : (t278 != t279) = false := bne_eq_false_iff_eq.mpr c18
            clear c18
            replace H := Option.bind_eq_some_iff.mp H
            obtain ⟨t280, A190, H⟩ := H
            replace H : ((heronryref02_Abs.f a0).bind fun t281 => (if t280 = t281 then (if t268 = t270 then (if (t269 == t271) = true then ((float_Next.f a0).bind fun t282 => ((heronryref02_Next.f k a0).bind fun t283 => (if t282 = t283 then ((float_Of.f a1).bind fun t284 => ((heronryref02_Of.f k a1).bind fun t285 => (some (t284 == t285)))) else (some false)))) else (some false)) else (some false)) else (some false))) = some r := H
            have A19 := Aside0.mk A190
            clear A190
            replace H := Option.bind_eq_some_iff.mp H
            obtain ⟨t281, A200, H⟩ := H
            replace H : (if t280 = t281 then (if t268 = t270 then (if (t269 == t271) = true then ((float_Next.f a0).bind fun t282 => ((heronryref02_Next.f k a0).bind fun t283 => (if t282 = t283 then ((float_Of.f a1).bind fun t284 => ((heronryref02_Of.f k a1).bind fun t285 => (some (t284 == t285)))) else (some false)))) else (some false)) else (some false)) else (some false)) = some r := H
            have A20 := Aside0.mk A200
            clear A200
            by_cases c21 : t280 = t281
            · rw [if_pos c21] at H
              have c21b0 : (t280 == t281) = true := beq_iff_eq.mpr c21
              have c21b1 : (t280 != t281) = false := bne_eq_false_iff_eq.mpr c21
              clear c21
              by_cases c22 : t268 = t270
              · rw [if_pos c22] at H
                have c22b0 : (t268 == t270) = true := beq_iff_eq.mpr c22
                have c22b1 : (t268 != t270) = false := bne_eq_false_iff_eq.mpr c22
                clear c22
                by_cases c23 : (t269 == t271) = true
                · rw [if_pos c23] at H
                  have c23b0 : (t269 == t271) = true := c23
                  (try (have c23b1 : decide (t269 = t271) = true := by simpa using c23))
                  (try (have c23b2 : (t269 == t271) = true := by simpa using c23))
                  clear c23
                  replace H := Option.bind_eq_some_iff.mp H
                  obtain ⟨t282, A240, H⟩ := H
                  replace H : ((heronryref02_Next.f k a0).bind fun t283 => (if t282 = t283 then ((float_Of.f a1).bind fun t284 => ((heronryref02_Of.f k a1).bind fun t285 => (some (t284 == t285)))) else (some false))) = some r := H
                  have A24 := Aside0.mk A240
                  clear A240
                  replace H := Option.bind_eq_some_iff.mp H
                  obtain ⟨t283, A250, H⟩ := H
                  replace H : (if t282 = t283 then ((float_Of.f a1).bind fun t284 => ((heronryref02_Of.f k a1).bind fun t285 => (some (t284 == t285)))) else (some false)) = some r := H
                  have A25 := Aside0.mk A250
                  clear A250
                  by_cases c26 : t282 = t283
                  · rw [if_pos c26] at H
                    have c26b0 : (t282 == t283) = true := beq_iff_eq.mpr c26
                    have c26b1 : (t282 != t283) = false := bne_eq_false_iff_eq.mpr c26
                    clear c26
                    replace H := Option.bind_eq_some_iff.mp H
                    obtain ⟨t284, A270, H⟩ := H
                    replace H : ((heronryref02_Of.f k a1).bind fun t285 => (some (t284 == t285))) = some r := H
                    have A27 := Aside0.mk A270
                    clear A270
                    replace H := Option.bind_eq_some_iff.mp H
                    obtain ⟨t285, A280, H⟩ := H
                    replace H : (some (t284 == t285)) = some r := H
                    have A28 := Aside0.mk A280
                    clear A280
                    obtain rfl := Option.some.inj H
                    go_enter Try.func10, Try.ntmps10
                    go_wp2_with (first | ((with_reducible refine gate_callee (f := 11) rfl ?_); refine goesL_ (some 10) rfl rfl Try.func11 (by kernel_rfl) rfl #[] rfl (by (try simp only [List.map_toArray, List.map_cons, List.map_nil]); first | done | rfl | (simp only [List.length_drop, List.length_take]; rfl)) ?_; (with_reducible refine (heronrylaw02_awake.calls  true _ A3.out).mono ?_); rintro e w' ⟨rfl, ⟨nd, rfl⟩⟩; refine ⟨_, rfl, ?_⟩) | ((with_reducible refine gate_callee (f := 25) rfl ?_); refine goesL_ (some 13) rfl rfl Try.func25 (by kernel_rfl) rfl #[.int .u64 a0] rfl (by (try simp only [List.map_toArray, List.map_cons, List.map_nil]); first | done | rfl | (simp only [List.length_drop, List.length_take]; rfl)) ?_; (with_reducible refine (float_Int.calls a0 t268 t269 _ A4.out).mono ?_); rintro e w' ⟨rfl, ⟨nd, rfl⟩⟩; refine ⟨_, rfl, ?_⟩) | ((with_reducible refine gate_callee (f := 29) rfl ?_); refine goesL_ (some 18) rfl rfl Try.func29 (by kernel_rfl) rfl #[.int .u64 a0] rfl (by (try simp only [List.map_toArray, List.map_cons, List.map_nil]); first | done | rfl | (simp only [List.length_drop, List.length_take]; rfl)) ?_; (with_reducible refine (heronryref02_Int.calls k a0 t270 t271 _ A5.out).mono ?_); rintro e w' ⟨rfl, ⟨nd, rfl⟩⟩; refine ⟨_, rfl, ?_⟩) | (go_at_call 17; (with_reducible refine (float_Class.calls a0 t272 _ A7.out).mono ?_); rintro e w' ⟨rfl, ⟨nd, rfl⟩⟩) | (go_at_call 30; (with_reducible refine (heronryref02_Class.calls a0 t273 _ A8.out).mono ?_); rintro e w' ⟨rfl, ⟨nd, rfl⟩⟩) | (go_at_call 13; (with_reducible refine (float_Key.calls a0 t274 _ A10.out).mono ?_); rintro e w' ⟨rfl, ⟨nd, rfl⟩⟩) | (go_at_call 31; (with_reducible refine (heronryref02_Key.calls a0 t275 _ A11.out).mono ?_); rintro e w' ⟨rfl, ⟨nd, rfl⟩⟩) | (go_at_call 12; (with_reducible refine (float_FromKey.calls a0 t276 _ A13.out).mono ?_); rintro e w' ⟨rfl, ⟨nd, rfl⟩⟩) | (go_at_call 32; (with_reducible refine (heronryref02_FromKey.calls a0 t277 _ A14.out).mono ?_); rintro e w' ⟨rfl, ⟨nd, rfl⟩⟩) | (go_at_call 27; (with_reducible refine (float_Neg.calls a0 t278 _ A16.out).mono ?_); rintro e w' ⟨rfl, ⟨nd, rfl⟩⟩) | (go_at_call 33; (with_reducible refine (heronryref02_Neg.calls a0 t279 _ A17.out).mono ?_); rintro e w' ⟨rfl, ⟨nd, rfl⟩⟩) | (go_at_call 28; (with_reducible refine (float_Abs.calls a0 t280 _ A19.out).mono ?_); rintro e w' ⟨rfl, ⟨nd, rfl⟩⟩) | (go_at_call 34; (with_reducible refine (heronryref02_Abs.calls a0 t281 _ A20.out).mono ?_); rintro e w' ⟨rfl, ⟨nd, rfl⟩⟩) | (go_at_call 18; (with_reducible refine (float_Next.calls a0 t282 _ A24.out).mono ?_); rintro e w' ⟨rfl, ⟨nd, rfl⟩⟩) | (go_at_call 35; (with_reducible refine (heronryref02_Next.calls k a0 t283 _ A25.out).mono ?_); rintro e w' ⟨rfl, ⟨nd, rfl⟩⟩) | (go_at_call 26; (with_reducible refine (float_Of.calls a1 t284 _ A27.out).mono ?_); rintro e w' ⟨rfl, ⟨nd, rfl⟩⟩) | (go_at_call 36; (with_reducible refine (heronryref02_Of.calls k a1 t285 _ A28.out).mono ?_); rintro e w' ⟨rfl, ⟨nd, rfl⟩⟩))
                    go_ret
                    exact ⟨by first | rfl | (simp; done) | (simp [*]; done), by repeat (first | exact Drawn0.refl _ | apply Drawn0.step)⟩
                  · rw [if_neg c26] at H
                    have c26b0 : (t282 == t283) = false := beq_eq_false_iff_ne.mpr c26
                    have c26b1 : (t282 != t283) = true := bne_iff_ne.mpr c26
                    obtain rfl := Option.some.inj H
                    exact absurd hT_.out (by decide)
                · rw [if_neg c23] at H
                  have c23b0 : (t269 == t271) = false := by simpa using c23
                  (try (have c23b1 : decide (t269 = t271) = false := by simpa using c23))
                  (try (have c23b2 : (t269 == t271) = false := by simpa using c23))
                  (try (have c23b3 : ¬ (t269 = t271) := by simpa using c23))
                  clear c23
                  obtain rfl := Option.some.inj H
                  exact absurd hT_.out (by decide)
              · rw [if_neg c22] at H
                have c22b0 : (t268 == t270) = false := beq_eq_false_iff_ne.mpr c22
                have c22b1 : (t268 != t270) = true := bne_iff_ne.mpr c22
                obtain rfl := Option.some.inj H
                exact absurd hT_.out (by decide)
            · rw [if_neg c21] at H
              have c21b0 : (t280 == t281) = false := beq_eq_false_iff_ne.mpr c21
              have c21b1 : (t280 != t281) = true := bne_iff_ne.mpr c21
              obtain rfl := Option.some.inj H
              exact absurd hT_.out (by decide)
          · rw [if_neg c18] at H
            have c18b0 : (t278 == t279) = false := beq_eq_false_iff_ne.mpr c18
            have c18b1 : (t278 != t279) = true := bne_iff_ne.mpr c18
            obtain rfl := Option.some.inj H
            exact absurd hT_.out (by decide)
        · rw [if_neg c15] at H
          have c15b0 : (t276 == t277) = false := beq_eq_false_iff_ne.mpr c15
          have c15b1 : (t276 != t277) = true := bne_iff_ne.mpr c15
          obtain rfl := Option.some.inj H
          exact absurd hT_.out (by decide)
      · rw [if_neg c12] at H
        have c12b0 : (t274 == t275) = false := beq_eq_false_iff_ne.mpr c12
        have c12b1 : (t274 != t275) = true := bne_iff_ne.mpr c12
        obtain rfl := Option.some.inj H
        exact absurd hT_.out (by decide)
    · rw [if_neg c9] at H
      have c9b0 : (t272 == t273) = false := beq_eq_false_iff_ne.mpr c9
      have c9b1 : (t272 != t273) = true := bne_iff_ne.mpr c9
      obtain rfl := Option.some.inj H
      exact absurd hT_.out (by decide)
  · replace c6 := Bool.eq_false_iff.mpr c6
    subst c6
    have H1 : (some false) = some r := by rw [if_neg (show ¬ (false = true) by decide)] at H; exact H
    clear H
    have H := H1
    clear H1
    obtain rfl := Option.some.inj H
    exact absurd hT_.out (by decide)

/-- THE ONE PURE STATEMENT of heronrylaw02_FloatIs: yours. -/
def heronrylaw02_FloatIs.Pure : Prop := ∀ (a0 : Int) (a1 : Int), (Lit.int .u64 a0).wf = true → (Lit.int .i64 a1).wf = true → ∃ k, heronrylaw02_FloatIs.f k a0 a1 = some true
theorem heronrylaw02_FloatIs.walk (P : heronrylaw02_FloatIs.Pure) (a0 : Int) (a1 : Int) (w : World) (w0 : (Lit.int .u64 a0).wf = true) (w1 : (Lit.int .i64 a1).wf = true) :
    Calls Try.prog 10 #[.int .u64 a0, .int .i64 a1] w fun e w' => e = .returned (.bool true) ∧ Below w.heap.size w w' := by
  obtain ⟨k, h⟩ := P a0 a1 w0 w1
  refine (heronrylaw02_FloatIs.calls k a0 a1 true w ⟨rfl⟩ h).mono ?_
  rintro e w' ⟨rfl, hd⟩
  exact ⟨rfl, hd.below⟩

end Go.Proofs.Ytkcoabnghdlboaa.Q
