-- Written by hprint.py (the kit's printer, with functions that are given). Lean checks it.
import Derived.Test.YtkcoabnghdlboaaQ0
import Derived.Test.YtkcoabnghdlboaaQ1
import Derived.Test.YtkcoabnghdlboaaQ3
import Derived.Test.YtkcoabnghdlboaaQ4
import Derived.Test.YtkcoabnghdlboaaH6
namespace Go.Proofs.Ytkcoabnghdlboaa.Q
open Go.RowKit Go.Proofs.YtkcoabnghdlboaaW.PrintWords Go.Proofs.YtkcoabnghdlboaaW.PrintLast Go.Proofs.YtkcoabnghdlboaaW.PrintMore
attribute [local go_sem] max2_int min2_int max_two min_two max_three min_three max_four min_four   -- for this text's walks alone
set_option linter.unusedVariables false
set_option linter.unusedSimpArgs false

/-! ### heronryref02_Min: function 22 -/
def heronryref02_Min.f (a0 : Int) (a1 : Int) : Option (Int) := (heronryref02_Class.f a0).bind fun t157 => (if t157 = 4 then ((heronryref02_quiet.f a0).bind fun t158 => (some t158)) else ((heronryref02_Class.f a1).bind fun t159 => (if t159 = 4 then ((heronryref02_quiet.f a1).bind fun t160 => (some t160)) else ((heronryref02_Key.f a1).bind fun t161 => ((heronryref02_Key.f a0).bind fun t162 => (if t161 < t162 then (some a1) else (some a0)))))))
set_option maxHeartbeats 8000000 in
set_option maxRecDepth 100000 in
theorem heronryref02_Min.calls (a0 : Int) (a1 : Int) (r : Int) (w : World) (h : heronryref02_Min.f a0 a1 = some r) :
    Calls Try.prog 22 #[.int .u64 a0, .int .u64 a1] w fun e w' => e = .returned (.int .u64 r) ∧ Drawn0 w w' := by
  have H : ((heronryref02_Class.f a0).bind fun t157 => (if t157 = 4 then ((heronryref02_quiet.f a0).bind fun t158 => (some t158)) else ((heronryref02_Class.f a1).bind fun t159 => (if t159 = 4 then ((heronryref02_quiet.f a1).bind fun t160 => (some t160)) else ((heronryref02_Key.f a1).bind fun t161 => ((heronryref02_Key.f a0).bind fun t162 => (if t161 < t162 then (some a1) else (some a0)))))))) = some r := h
  clear h
  replace H := Option.bind_eq_some_iff.mp H
  obtain ⟨t157, A30, H⟩ := H
  replace H : (if t157 = 4 then ((heronryref02_quiet.f a0).bind fun t158 => (some t158)) else ((heronryref02_Class.f a1).bind fun t159 => (if t159 = 4 then ((heronryref02_quiet.f a1).bind fun t160 => (some t160)) else ((heronryref02_Key.f a1).bind fun t161 => ((heronryref02_Key.f a0).bind fun t162 => (if t161 < t162 then (some a1) else (some a0))))))) = some r := H
  have A3 := Aside0.mk A30
  clear A30
  by_cases c4 : t157 = 4
  · rw [if_pos c4] at H
    have c4b0 : (t157 == 4) = true := beq_iff_eq.mpr c4
    have c4b1 : (t157 != 4) = false := bne_eq_false_iff_eq.mpr c4
    clear c4
    replace H := Option.bind_eq_some_iff.mp H
    obtain ⟨t158, A50, H⟩ := H
    replace H : (some t158) = some r := H
    have A5 := Aside0.mk A50
    clear A50
    obtain rfl := Option.some.inj H
    go_enter Try.func22, Try.ntmps22
    go_wp2_with (first | ((with_reducible refine gate_callee (f := 30) rfl ?_); refine goesL_ (some 7) rfl rfl Try.func30 (by kernel_rfl) rfl #[.int .u64 a0] rfl (by (try simp only [List.map_toArray, List.map_cons, List.map_nil]); first | done | rfl | (simp only [List.length_drop, List.length_take]; rfl)) ?_; (with_reducible refine (heronryref02_Class.calls a0 t157 _ A3.out).mono ?_); rintro e w' ⟨rfl, ⟨nd, rfl⟩⟩; refine ⟨_, rfl, ?_⟩) | ((with_reducible refine gate_callee (f := 45) rfl ?_); refine goesL_ (some 10) rfl rfl Try.func45 (by kernel_rfl) rfl #[.int .u64 a0] rfl (by (try simp only [List.map_toArray, List.map_cons, List.map_nil]); first | done | rfl | (simp only [List.length_drop, List.length_take]; rfl)) ?_; (with_reducible refine (heronryref02_quiet.calls a0 t158 _ A5.out).mono ?_); rintro e w' ⟨rfl, ⟨nd, rfl⟩⟩; refine ⟨_, rfl, ?_⟩))
    go_ret
    exact ⟨by first | rfl | (simp; done) | (simp [*]; done), by repeat (first | exact Drawn0.refl _ | apply Drawn0.step)⟩
  · rw [if_neg c4] at H
    have c4b0 : (t157 == 4) = false := beq_eq_false_iff_ne.mpr c4
    have c4b1 : (t157 != 4) = true := bne_iff_ne.mpr c4
    replace H := Option.bind_eq_some_iff.mp H
    obtain ⟨t159, A60, H⟩ := H
    replace H : (if t159 = 4 then ((heronryref02_quiet.f a1).bind fun t160 => (some t160)) else ((heronryref02_Key.f a1).bind fun t161 => ((heronryref02_Key.f a0).bind fun t162 => (if t161 < t162 then (some a1) else (some a0))))) = some r := H
    have A6 := Aside0.mk A60
    clear A60
    by_cases c7 : t159 = 4
    · rw [if_pos c7] at H
      have c7b0 : (t159 == 4) = true := beq_iff_eq.mpr c7
      have c7b1 : (t159 != 4) = false := bne_eq_false_iff_eq.mpr c7
      clear c7
      replace H := Option.bind_eq_some_iff.mp H
      obtain ⟨t160, A80, H⟩ := H
      replace H : (some t160) = some r := H
      have A8 := Aside0.mk A80
      clear A80
      obtain rfl := Option.some.inj H
      go_enter Try.func22, Try.ntmps22
      go_wp2_with (first | ((with_reducible refine gate_callee (f := 30) rfl ?_); refine goesL_ (some 7) rfl rfl Try.func30 (by kernel_rfl) rfl #[.int .u64 a0] rfl (by (try simp only [List.map_toArray, List.map_cons, List.map_nil]); first | done | rfl | (simp only [List.length_drop, List.length_take]; rfl)) ?_; (with_reducible refine (heronryref02_Class.calls a0 t157 _ A3.out).mono ?_); rintro e w' ⟨rfl, ⟨nd, rfl⟩⟩; refine ⟨_, rfl, ?_⟩) | ((with_reducible refine gate_callee (f := 30) rfl ?_); refine goesL_ (some 13) rfl rfl Try.func30 (by kernel_rfl) rfl #[.int .u64 a1] rfl (by (try simp only [List.map_toArray, List.map_cons, List.map_nil]); first | done | rfl | (simp only [List.length_drop, List.length_take]; rfl)) ?_; (with_reducible refine (heronryref02_Class.calls a1 t159 _ A6.out).mono ?_); rintro e w' ⟨rfl, ⟨nd, rfl⟩⟩; refine ⟨_, rfl, ?_⟩) | ((with_reducible refine gate_callee (f := 45) rfl ?_); refine goesL_ (some 16) rfl rfl Try.func45 (by kernel_rfl) rfl #[.int .u64 a1] rfl (by (try simp only [List.map_toArray, List.map_cons, List.map_nil]); first | done | rfl | (simp only [List.length_drop, List.length_take]; rfl)) ?_; (with_reducible refine (heronryref02_quiet.calls a1 t160 _ A8.out).mono ?_); rintro e w' ⟨rfl, ⟨nd, rfl⟩⟩; refine ⟨_, rfl, ?_⟩))
      go_ret
      exact ⟨by first | rfl | (simp; done) | (simp [*]; done), by repeat (first | exact Drawn0.refl _ | apply Drawn0.step)⟩
    · rw [if_neg c7] at H
      have c7b0 : (t159 == 4) = false := beq_eq_false_iff_ne.mpr c7
      have c7b1 : (t159 != 4) = true := bne_iff_ne.mpr c7
      replace H := Option.bind_eq_some_iff.mp H
      obtain ⟨t161, A90, H⟩ := H
      replace H : ((heronryref02_Key.f a0).bind fun t162 => (if t161 < t162 then (some a1) else (some a0))) = some r := H
      have A9 := Aside0.mk A90
      clear A90
      replace H := Option.bind_eq_some_iff.mp H
      obtain ⟨t162, A100, H⟩ := H
      replace H : (if t161 < t162 then (some a1) else (some a0)) = some r := H
      have A10 := Aside0.mk A100
      clear A100
      by_cases c11 : t161 < t162
      · rw [if_pos c11] at H
        have c11b0 : decide (t161 < t162) = true := decide_eq_true c11
        clear c11
        obtain rfl := Option.some.inj H
        go_enter Try.func22, Try.ntmps22
        go_wp2_with (first | ((with_reducible refine gate_callee (f := 30) rfl ?_); refine goesL_ (some 7) rfl rfl Try.func30 (by kernel_rfl) rfl #[.int .u64 a0] rfl (by (try simp only [List.map_toArray, List.map_cons, List.map_nil]); first | done | rfl | (simp only [List.length_drop, List.length_take]; rfl)) ?_; (with_reducible refine (heronryref02_Class.calls a0 t157 _ A3.out).mono ?_); rintro e w' ⟨rfl, ⟨nd, rfl⟩⟩; refine ⟨_, rfl, ?_⟩) | ((with_reducible refine gate_callee (f := 30) rfl ?_); refine goesL_ (some 13) rfl rfl Try.func30 (by kernel_rfl) rfl #[.int .u64 a1] rfl (by (try simp only [List.map_toArray, List.map_cons, List.map_nil]); first | done | rfl | (simp only [List.length_drop, List.length_take]; rfl)) ?_; (with_reducible refine (heronryref02_Class.calls a1 t159 _ A6.out).mono ?_); rintro e w' ⟨rfl, ⟨nd, rfl⟩⟩; refine ⟨_, rfl, ?_⟩) | ((with_reducible refine gate_callee (f := 31) rfl ?_); refine goesL_ (some 19) rfl rfl Try.func31 (by kernel_rfl) rfl #[.int .u64 a1] rfl (by (try simp only [List.map_toArray, List.map_cons, List.map_nil]); first | done | rfl | (simp only [List.length_drop, List.length_take]; rfl)) ?_; (with_reducible refine (heronryref02_Key.calls a1 t161 _ A9.out).mono ?_); rintro e w' ⟨rfl, ⟨nd, rfl⟩⟩; refine ⟨_, rfl, ?_⟩) | ((with_reducible refine gate_callee (f := 31) rfl ?_); refine goesL_ (some 21) rfl rfl Try.func31 (by kernel_rfl) rfl #[.int .u64 a0] rfl (by (try simp only [List.map_toArray, List.map_cons, List.map_nil]); first | done | rfl | (simp only [List.length_drop, List.length_take]; rfl)) ?_; (with_reducible refine (heronryref02_Key.calls a0 t162 _ A10.out).mono ?_); rintro e w' ⟨rfl, ⟨nd, rfl⟩⟩; refine ⟨_, rfl, ?_⟩))
        go_ret
        exact ⟨by first | rfl | (simp; done) | (simp [*]; done), by repeat (first | exact Drawn0.refl _ | apply Drawn0.step)⟩
      · rw [if_neg c11] at H
        have c11b0 : decide (t161 < t162) = false := decide_eq_false c11
        clear c11
        obtain rfl := Option.some.inj H
        go_enter Try.func22, Try.ntmps22
        go_wp2_with (first | ((with_reducible refine gate_callee (f := 30) rfl ?_); refine goesL_ (some 7) rfl rfl Try.func30 (by kernel_rfl) rfl #[.int .u64 a0] rfl (by (try simp only [List.map_toArray, List.map_cons, List.map_nil]); first | done | rfl | (simp only [List.length_drop, List.length_take]; rfl)) ?_; (with_reducible refine (heronryref02_Class.calls a0 t157 _ A3.out).mono ?_); rintro e w' ⟨rfl, ⟨nd, rfl⟩⟩; refine ⟨_, rfl, ?_⟩) | ((with_reducible refine gate_callee (f := 30) rfl ?_); refine goesL_ (some 13) rfl rfl Try.func30 (by kernel_rfl) rfl #[.int .u64 a1] rfl (by (try simp only [List.map_toArray, List.map_cons, List.map_nil]); first | done | rfl | (simp only [List.length_drop, List.length_take]; rfl)) ?_; (with_reducible refine (heronryref02_Class.calls a1 t159 _ A6.out).mono ?_); rintro e w' ⟨rfl, ⟨nd, rfl⟩⟩; refine ⟨_, rfl, ?_⟩) | ((with_reducible refine gate_callee (f := 31) rfl ?_); refine goesL_ (some 19) rfl rfl Try.func31 (by kernel_rfl) rfl #[.int .u64 a1] rfl (by (try simp only [List.map_toArray, List.map_cons, List.map_nil]); first | done | rfl | (simp only [List.length_drop, List.length_take]; rfl)) ?_; (with_reducible refine (heronryref02_Key.calls a1 t161 _ A9.out).mono ?_); rintro e w' ⟨rfl, ⟨nd, rfl⟩⟩; refine ⟨_, rfl, ?_⟩) | ((with_reducible refine gate_callee (f := 31) rfl ?_); refine goesL_ (some 21) rfl rfl Try.func31 (by kernel_rfl) rfl #[.int .u64 a0] rfl (by (try simp only [List.map_toArray, List.map_cons, List.map_nil]); first | done | rfl | (simp only [List.length_drop, List.length_take]; rfl)) ?_; (with_reducible refine (heronryref02_Key.calls a0 t162 _ A10.out).mono ?_); rintro e w' ⟨rfl, ⟨nd, rfl⟩⟩; refine ⟨_, rfl, ?_⟩))
        go_ret
        exact ⟨by first | rfl | (simp; done) | (simp [*]; done), by repeat (first | exact Drawn0.refl _ | apply Drawn0.step)⟩

-- GIVEN: function 23 (float_Max)

/-! ### heronryref02_Max: function 24 -/
def heronryref02_Max.f (a0 : Int) (a1 : Int) : Option (Int) := (heronryref02_Class.f a0).bind fun t163 => (if t163 = 4 then ((heronryref02_quiet.f a0).bind fun t164 => (some t164)) else ((heronryref02_Class.f a1).bind fun t165 => (if t165 = 4 then ((heronryref02_quiet.f a1).bind fun t166 => (some t166)) else ((heronryref02_Key.f a1).bind fun t167 => ((heronryref02_Key.f a0).bind fun t168 => (if t167 > t168 then (some a1) else (some a0)))))))
set_option maxHeartbeats 8000000 in
set_option maxRecDepth 100000 in
theorem heronryref02_Max.calls (a0 : Int) (a1 : Int) (r : Int) (w : World) (h : heronryref02_Max.f a0 a1 = some r) :
    Calls Try.prog 24 #[.int .u64 a0, .int .u64 a1] w fun e w' => e = .returned (.int .u64 r) ∧ Drawn0 w w' := by
  have H : ((heronryref02_Class.f a0).bind fun t163 => (if t163 = 4 then ((heronryref02_quiet.f a0).bind fun t164 => (some t164)) else ((heronryref02_Class.f a1).bind fun t165 => (if t165 = 4 then ((heronryref02_quiet.f a1).bind fun t166 => (some t166)) else ((heronryref02_Key.f a1).bind fun t167 => ((heronryref02_Key.f a0).bind fun t168 => (if t167 > t168 then (some a1) else (some a0)))))))) = some r := h
  clear h
  replace H := Option.bind_eq_some_iff.mp H
  obtain ⟨t163, A30, H⟩ := H
  replace H : (if t163 = 4 then ((heronryref02_quiet.f a0).bind fun t164 => (some t164)) else ((heronryref02_Class.f a1).bind fun t165 => (if t165 = 4 then ((heronryref02_quiet.f a1).bind fun t166 => (some t166)) else ((heronryref02_Key.f a1).bind fun t167 => ((heronryref02_Key.f a0).bind fun t168 => (if t167 > t168 then (some a1) else (some a0))))))) = some r := H
  have A3 := Aside0.mk A30
  clear A30
  by_cases c4 : t163 = 4
  · rw [if_pos c4] at H
    have c4b0 : (t163 == 4) = true := beq_iff_eq.mpr c4
    have c4b1 : (t163 != 4) = false := bne_eq_false_iff_eq.mpr c4
    clear c4
    replace H := Option.bind_eq_some_iff.mp H
    obtain ⟨t164, A50, H⟩ := H
    replace H : (some t164) = some r := H
    have A5 := Aside0.mk A50
    clear A50
    obtain rfl := Option.some.inj H
    go_enter Try.func24, Try.ntmps24
    go_wp2_with (first | ((with_reducible refine gate_callee (f := 30) rfl ?_); refine goesL_ (some 7) rfl rfl Try.func30 (by kernel_rfl) rfl #[.int .u64 a0] rfl (by (try simp only [List.map_toArray, List.map_cons, List.map_nil]); first | done | rfl | (simp only [List.length_drop, List.length_take]; rfl)) ?_; (with_reducible refine (heronryref02_Class.calls a0 t163 _ A3.out).mono ?_); rintro e w' ⟨rfl, ⟨nd, rfl⟩⟩; refine ⟨_, rfl, ?_⟩) | ((with_reducible refine gate_callee (f := 45) rfl ?_); refine goesL_ (some 10) rfl rfl Try.func45 (by kernel_rfl) rfl #[.int .u64 a0] rfl (by (try simp only [List.map_toArray, List.map_cons, List.map_nil]); first | done | rfl | (simp only [List.length_drop, List.length_take]; rfl)) ?_; (with_reducible refine (heronryref02_quiet.calls a0 t164 _ A5.out).mono ?_); rintro e w' ⟨rfl, ⟨nd, rfl⟩⟩; refine ⟨_, rfl, ?_⟩))
    go_ret
    exact ⟨by first | rfl | (simp; done) | (simp [*]; done), by repeat (first | exact Drawn0.refl _ | apply Drawn0.step)⟩
  · rw [if_neg c4] at H
    have c4b0 : (t163 == 4) = false := beq_eq_false_iff_ne.mpr c4
    have c4b1 : (t163 != 4) = true := bne_iff_ne.mpr c4
    replace H := Option.bind_eq_some_iff.mp H
    obtain ⟨t165, A60, H⟩ := H
    replace H : (if t165 = 4 then ((heronryref02_quiet.f a1).bind fun t166 => (some t166)) else ((heronryref02_Key.f a1).bind fun t167 => ((heronryref02_Key.f a0).bind fun t168 => (if t167 > t168 then (some a1) else (some a0))))) = some r := H
    have A6 := Aside0.mk A60
    clear A60
    by_cases c7 : t165 = 4
    · rw [if_pos c7] at H
      have c7b0 : (t165 == 4) = true := beq_iff_eq.mpr c7
      have c7b1 : (t165 != 4) = false := bne_eq_false_iff_eq.mpr c7
      clear c7
      replace H := Option.bind_eq_some_iff.mp H
      obtain ⟨t166, A80, H⟩ := H
      replace H : (some t166) = some r := H
      have A8 := Aside0.mk A80
      clear A80
      obtain rfl := Option.some.inj H
      go_enter Try.func24, Try.ntmps24
      go_wp2_with (first | ((with_reducible refine gate_callee (f := 30) rfl ?_); refine goesL_ (some 7) rfl rfl Try.func30 (by kernel_rfl) rfl #[.int .u64 a0] rfl (by (try simp only [List.map_toArray, List.map_cons, List.map_nil]); first | done | rfl | (simp only [List.length_drop, List.length_take]; rfl)) ?_; (with_reducible refine (heronryref02_Class.calls a0 t163 _ A3.out).mono ?_); rintro e w' ⟨rfl, ⟨nd, rfl⟩⟩; refine ⟨_, rfl, ?_⟩) | ((with_reducible refine gate_callee (f := 30) rfl ?_); refine goesL_ (some 13) rfl rfl Try.func30 (by kernel_rfl) rfl #[.int .u64 a1] rfl (by (try simp only [List.map_toArray, List.map_cons, List.map_nil]); first | done | rfl | (simp only [List.length_drop, List.length_take]; rfl)) ?_; (with_reducible refine (heronryref02_Class.calls a1 t165 _ A6.out).mono ?_); rintro e w' ⟨rfl, ⟨nd, rfl⟩⟩; refine ⟨_, rfl, ?_⟩) | ((with_reducible refine gate_callee (f := 45) rfl ?_); refine goesL_ (some 16) rfl rfl Try.func45 (by kernel_rfl) rfl #[.int .u64 a1] rfl (by (try simp only [List.map_toArray, List.map_cons, List.map_nil]); first | done | rfl | (simp only [List.length_drop, List.length_take]; rfl)) ?_; (with_reducible refine (heronryref02_quiet.calls a1 t166 _ A8.out).mono ?_); rintro e w' ⟨rfl, ⟨nd, rfl⟩⟩; refine ⟨_, rfl, ?_⟩))
      go_ret
      exact ⟨by first | rfl | (simp; done) | (simp [*]; done), by repeat (first | exact Drawn0.refl _ | apply Drawn0.step)⟩
    · rw [if_neg c7] at H
      have c7b0 : (t165 == 4) = false := beq_eq_false_iff_ne.mpr c7
      have c7b1 : (t165 != 4) = true := bne_iff_ne.mpr c7
      replace H := Option.bind_eq_some_iff.mp H
      obtain ⟨t167, A90, H⟩ := H
      replace H : ((heronryref02_Key.f a0).bind fun t168 => (if t167 > t168 then (some a1) else (some a0))) = some r := H
      have A9 := Aside0.mk A90
      clear A90
      replace H := Option.bind_eq_some_iff.mp H
      obtain ⟨t168, A100, H⟩ := H
      replace H : (if t167 > t168 then (some a1) else (some a0)) = some r := H
      have A10 := Aside0.mk A100
      clear A100
      by_cases c11 : t167 > t168
      · rw [if_pos c11] at H
        have c11b0 : decide (t168 < t167) = true := decide_eq_true c11
        clear c11
        obtain rfl := Option.some.inj H
        go_enter Try.func24, Try.ntmps24
        go_wp2_with (first | ((with_reducible refine gate_callee (f := 30) rfl ?_); refine goesL_ (some 7) rfl rfl Try.func30 (by kernel_rfl) rfl #[.int .u64 a0] rfl (by (try simp only [List.map_toArray, List.map_cons, List.map_nil]); first | done | rfl | (simp only [List.length_drop, List.length_take]; rfl)) ?_; (with_reducible refine (heronryref02_Class.calls a0 t163 _ A3.out).mono ?_); rintro e w' ⟨rfl, ⟨nd, rfl⟩⟩; refine ⟨_, rfl, ?_⟩) | ((with_reducible refine gate_callee (f := 30) rfl ?_); refine goesL_ (some 13) rfl rfl Try.func30 (by kernel_rfl) rfl #[.int .u64 a1] rfl (by (try simp only [List.map_toArray, List.map_cons, List.map_nil]); first | done | rfl | (simp only [List.length_drop, List.length_take]; rfl)) ?_; (with_reducible refine (heronryref02_Class.calls a1 t165 _ A6.out).mono ?_); rintro e w' ⟨rfl, ⟨nd, rfl⟩⟩; refine ⟨_, rfl, ?_⟩) | ((with_reducible refine gate_callee (f := 31) rfl ?_); refine goesL_ (some 19) rfl rfl Try.func31 (by kernel_rfl) rfl #[.int .u64 a1] rfl (by (try simp only [List.map_toArray, List.map_cons, List.map_nil]); first | done | rfl | (simp only [List.length_drop, List.length_take]; rfl)) ?_; (with_reducible refine (heronryref02_Key.calls a1 t167 _ A9.out).mono ?_); rintro e w' ⟨rfl, ⟨nd, rfl⟩⟩; refine ⟨_, rfl, ?_⟩) | ((with_reducible refine gate_callee (f := 31) rfl ?_); refine goesL_ (some 21) rfl rfl Try.func31 (by kernel_rfl) rfl #[.int .u64 a0] rfl (by (try simp only [List.map_toArray, List.map_cons, List.map_nil]); first | done | rfl | (simp only [List.length_drop, List.length_take]; rfl)) ?_; (with_reducible refine (heronryref02_Key.calls a0 t168 _ A10.out).mono ?_); rintro e w' ⟨rfl, ⟨nd, rfl⟩⟩; refine ⟨_, rfl, ?_⟩))
        go_ret
        exact ⟨by first | rfl | (simp; done) | (simp [*]; done), by repeat (first | exact Drawn0.refl _ | apply Drawn0.step)⟩
      · rw [if_neg c11] at H
        have c11b0 : decide (t168 < t167) = false := decide_eq_false c11
        clear c11
        obtain rfl := Option.some.inj H
        go_enter Try.func24, Try.ntmps24
        go_wp2_with (first | ((with_reducible refine gate_callee (f := 30) rfl ?_); refine goesL_ (some 7) rfl rfl Try.func30 (by kernel_rfl) rfl #[.int .u64 a0] rfl (by (try simp only [List.map_toArray, List.map_cons, List.map_nil]); first | done | rfl | (simp only [List.length_drop, List.length_take]; rfl)) ?_; (with_reducible refine (heronryref02_Class.calls a0 t163 _ A3.out).mono ?_); rintro e w' ⟨rfl, ⟨nd, rfl⟩⟩; refine ⟨_, rfl, ?_⟩) | ((with_reducible refine gate_callee (f := 30) rfl ?_); refine goesL_ (some 13) rfl rfl Try.func30 (by kernel_rfl) rfl #[.int .u64 a1] rfl (by (try simp only [List.map_toArray, List.map_cons, List.map_nil]); first | done | rfl | (simp only [List.length_drop, List.length_take]; rfl)) ?_; (with_reducible refine (heronryref02_Class.calls a1 t165 _ A6.out).mono ?_); rintro e w' ⟨rfl, ⟨nd, rfl⟩⟩; refine ⟨_, rfl, ?_⟩) | ((with_reducible refine gate_callee (f := 31) rfl ?_); refine goesL_ (some 19) rfl rfl Try.func31 (by kernel_rfl) rfl #[.int .u64 a1] rfl (by (try simp only [List.map_toArray, List.map_cons, List.map_nil]); first | done | rfl | (simp only [List.length_drop, List.length_take]; rfl)) ?_; (with_reducible refine (heronryref02_Key.calls a1 t167 _ A9.out).mono ?_); rintro e w' ⟨rfl, ⟨nd, rfl⟩⟩; refine ⟨_, rfl, ?_⟩) | ((with_reducible refine gate_callee (f := 31) rfl ?_); refine goesL_ (some 21) rfl rfl Try.func31 (by kernel_rfl) rfl #[.int .u64 a0] rfl (by (try simp only [List.map_toArray, List.map_cons, List.map_nil]); first | done | rfl | (simp only [List.length_drop, List.length_take]; rfl)) ?_; (with_reducible refine (heronryref02_Key.calls a0 t168 _ A10.out).mono ?_); rintro e w' ⟨rfl, ⟨nd, rfl⟩⟩; refine ⟨_, rfl, ?_⟩))
        go_ret
        exact ⟨by first | rfl | (simp; done) | (simp [*]; done), by repeat (first | exact Drawn0.refl _ | apply Drawn0.step)⟩

/-! ### heronrylaw02_FloatTwo: function 5 -/
def heronrylaw02_FloatTwo.f (k : Nat) (a0 : Int) (a1 : Int) : Option (Bool) := (heronrylaw02_awake.f).bind fun t169 => (if t169 = true then ((float_Less.f a0 a1).bind fun t170 => ((heronryref02_Less.f k a0 a1).bind fun t171 => (if (t170 == t171) = true then ((float_Equal.f a0 a1).bind fun t172 => ((heronryref02_Equal.f k a0 a1).bind fun t173 => (if (t172 == t173) = true then ((float_Min.f a0 a1).bind fun t174 => ((heronryref02_Min.f a0 a1).bind fun t175 => (if t174 = t175 then ((float_Max.f a0 a1).bind fun t176 => ((heronryref02_Max.f a0 a1).bind fun t177 => (some (t176 == t177)))) else (some false)))) else (some false)))) else (some false)))) else (some false))
theorem heronrylaw02_FloatTwo.mono : ∀ a0 a1 k, LeO (heronrylaw02_FloatTwo.f k a0 a1) (heronrylaw02_FloatTwo.f (k + 1) a0 a1) := by
  intro a0 a1 k
  unfold heronrylaw02_FloatTwo.f
  repeat' first
      | (with_reducible exact heronryref02_Equal.mono _ _ _)
      | (with_reducible exact heronryref02_Less.mono _ _ _)
      | (with_reducible exact LeO.refl _)
      | (with_reducible exact LeO.none _)
      | (with_reducible refine LeO.ite ?_ ?_)
      | (with_reducible refine LeO.bind ?_ (fun _ => ?_))
      | exact heronryref02_Equal.mono _ _ _
      | exact heronryref02_Less.mono _ _ _
      | exact LeO.none _
      | refine LeO.ite ?_ ?_
      | refine LeO.bind ?_ (fun _ => ?_)
set_option maxHeartbeats 8000000 in
set_option maxRecDepth 100000 in
theorem heronrylaw02_FloatTwo.calls (k : Nat) (a0 : Int) (a1 : Int) (r : Bool) (w : World) (hT_ : Aside0 (r = true)) (h : heronrylaw02_FloatTwo.f k a0 a1 = some r) :
    Calls Try.prog 5 #[.int .u64 a0, .int .u64 a1] w fun e w' => e = .returned (.bool r) ∧ Below w.heap.size w w' := by
  have HB := Aside0.mk (Below.refl w.heap.size w)
  have H : ((heronrylaw02_awake.f).bind fun t169 => (if t169 = true then ((float_Less.f a0 a1).bind fun t170 => ((heronryref02_Less.f k a0 a1).bind fun t171 => (if (t170 == t171) = true then ((float_Equal.f a0 a1).bind fun t172 => ((heronryref02_Equal.f k a0 a1).bind fun t173 => (if (t172 == t173) = true then ((float_Min.f a0 a1).bind fun t174 => ((heronryref02_Min.f a0 a1).bind fun t175 => (if t174 = t175 then ((float_Max.f a0 a1).bind fun t176 => ((heronryref02_Max.f a0 a1).bind fun t177 => (some (t176 == t177)))) else (some false)))) else (some false)))) else (some false)))) else (some false))) = some r := h
  clear h
  replace H := Option.bind_eq_some_iff.mp H
  obtain ⟨t169, A30, H⟩ := H
  replace H : (if t169 = true then ((float_Less.f a0 a1).bind fun t170 => ((heronryref02_Less.f k a0 a1).bind fun t171 => (if (t170 == t171) = true then ((float_Equal.f a0 a1).bind fun t172 => ((heronryref02_Equal.f k a0 a1).bind fun t173 => (if (t172 == t173) = true then ((float_Min.f a0 a1).bind fun t174 => ((heronryref02_Min.f a0 a1).bind fun t175 => (if t174 = t175 then ((float_Max.f a0 a1).bind fun t176 => ((heronryref02_Max.f a0 a1).bind fun t177 => (some (t176 == t177)))) else (some false)))) else (some false)))) else (some false)))) else (some false)) = some r := H
  have A3 := Aside0.mk A30
  clear A30
  by_cases c4 : t169 = true
  · subst c4
    have H1 : ((float_Less.f a0 a1).bind fun t170 => ((heronryref02_Less.f k a0 a1).bind fun t171 => (if (t170 == t171) = true then ((float_Equal.f a0 a1).bind fun t172 => ((heronryref02_Equal.f k a0 a1).bind fun t173 => (if (t172 == t173) = true then ((float_Min.f a0 a1).bind fun t174 => ((heronryref02_Min.f a0 a1).bind fun t175 => (if t174 = t175 then ((float_Max.f a0 a1).bind fun t176 => ((heronryref02_Max.f a0 a1).bind fun t177 => (some (t176 == t177)))) else (some false)))) else (some false)))) else (some false)))) = some r := by rw [if_pos rfl] at H; exact H
    clear H
    have H := H1
    clear H1
    replace H := Option.bind_eq_some_iff.mp H
    obtain ⟨t170, A50, H⟩ := H
    replace H : ((heronryref02_Less.f k a0 a1).bind fun t171 => (if (t170 == t171) = true then ((float_Equal.f a0 a1).bind fun t172 => ((heronryref02_Equal.f k a0 a1).bind fun t173 => (if (t172 == t173) = true then ((float_Min.f a0 a1).bind fun t174 => ((heronryref02_Min.f a0 a1).bind fun t175 => (if t174 = t175 then ((float_Max.f a0 a1).bind fun t176 => ((heronryref02_Max.f a0 a1).bind fun t177 => (some (t176 == t177)))) else (some false)))) else (some false)))) else (some false))) = some r := H
    have A5 := Aside0.mk A50
    clear A50
    replace H := Option.bind_eq_some_iff.mp H
    obtain ⟨t171, A60, H⟩ := H
    replace H : (if (t170 == t171) = true then ((float_Equal.f a0 a1).bind fun t172 => ((heronryref02_Equal.f k a0 a1).bind fun t173 => (if (t172 == t173) = true then ((float_Min.f a0 a1).bind fun t174 => ((heronryref02_Min.f a0 a1).bind fun t175 => (if t174 = t175 then ((float_Max.f a0 a1).bind fun t176 => ((heronryref02_Max.f a0 a1).bind fun t177 => (some (t176 == t177)))) else (some false)))) else (some false)))) else (some false)) = some r := H
    have A6 := Aside0.mk A60
    clear A60
    by_cases c7 : (t170 == t171) = true
    · rw [if_pos c7] at H
      have c7b0 : (t170 == t171) = true := c7
      (try (have c7b1 : decide (t170 = t171) = true := by simpa using c7))
      (try (have c7b2 : (t170 == t171) = true := by simpa using c7))
      clear c7
      replace H := Option.bind_eq_some_iff.mp H
      obtain ⟨t172, A80, H⟩ := H
      replace H : ((heronryref02_Equal.f k a0 a1).bind fun t173 => (if (t172 == t173) = true then ((float_Min.f a0 a1).bind fun t174 => ((heronryref02_Min.f a0 a1).bind fun t175 => (if t174 = t175 then ((float_Max.f a0 a1).bind fun t176 => ((heronryref02_Max.f a0 a1).bind fun t177 => (some (t176 == t177)))) else (some false)))) else (some false))) = some r := H
      have A8 := Aside0.mk A80
      clear A80
      replace H := Option.bind_eq_some_iff.mp H
      obtain ⟨t173, A90, H⟩ := H
      replace H : (if (t172 == t173) = true then ((float_Min.f a0 a1).bind fun t174 => ((heronryref02_Min.f a0 a1).bind fun t175 => (if t174 = t175 then ((float_Max.f a0 a1).bind fun t176 => ((heronryref02_Max.f a0 a1).bind fun t177 => (some (t176 == t177)))) else (some false)))) else (some false)) = some r := H
      have A9 := Aside0.mk A90
      clear A90
      by_cases c10 : (t172 == t173) = true
      · rw [if_pos c10] at H
        have c10b0 : (t172 == t173) = true := c10
        (try (have c10b1 : decide (t172 = t173) = true := by simpa using c10))
        (try (have c10b2 : (t172 == t173) = true := by simpa using c10))
        clear c10
        replace H := Option.bind_eq_some_iff.mp H
        obtain ⟨t174, A110, H⟩ := H
        replace H : ((heronryref02_Min.f a0 a1).bind fun t175 => (if t174 = t175 then ((float_Max.f a0 a1).bind fun t176 => ((heronryref02_Max.f a0 a1).bind fun t177 => (some (t176 == t177)))) else (some false))) = some r := H
        have A11 := Aside0.mk A110
        clear A110
        replace H := Option.bind_eq_some_iff.mp H
        obtain ⟨t175, A120, H⟩ := H
        replace H : (if t174 = t175 then ((float_Max.f a0 a1).bind fun t176 => ((heronryref02_Max.f a0 a1).bind fun t177 => (some (t176 == t177)))) else (some false)) = some r := H
        have A12 := Aside0.mk A120
        clear A120
        by_cases c13 : t174 = t175
        · rw [if_pos c13] at H
          have c13b0 : (t174 == t175) = true := beq_iff_eq.mpr c13
          have c13b1 : (t174 != t175) = false := bne_eq_false_iff_eq.mpr c13
          clear c13
          replace H := Option.bind_eq_some_iff.mp H
          obtain ⟨t176, A140, H⟩ := H
          replace H : ((heronryref02_Max.f a0 a1).bind fun t177 => (some (t176 == t177))) = some r := H
          have A14 := Aside0.mk A140
          clear A140
          replace H := Option.bind_eq_some_iff.mp H
          obtain ⟨t177, A150, H⟩ := H
          replace H : (some (t176 == t177)) = some r := H
          have A15 := Aside0.mk A150
          clear A150
          obtain rfl := Option.some.inj H
          go_enter Try.func5, Try.ntmps5
          go_wp2_with (first | ((with_reducible refine gate_callee (f := 11) rfl ?_); refine goesL_ (some 6) rfl rfl Try.func11 (by kernel_rfl) rfl #[] rfl (by (try simp only [List.map_toArray, List.map_cons, List.map_nil]); first | done | rfl | (simp only [List.length_drop, List.length_take]; rfl)) ?_; (with_reducible refine (heronrylaw02_awake.calls  true _ A3.out).mono ?_); rintro e w' ⟨rfl, ⟨nd, rfl⟩⟩; refine ⟨_, rfl, ?_⟩) | (go_at_call 15; (with_reducible refine (float_Less.calls a0 a1 t170 _ A5.out).mono ?_); rintro e w' ⟨rfl, ⟨nd, rfl⟩⟩) | (go_at_call 19; (with_reducible refine (heronryref02_Less.calls k a0 a1 t171 _ A6.out).mono ?_); rintro e w' ⟨rfl, ⟨nd, rfl⟩⟩) | (go_at_call 16; (with_reducible refine (float_Equal.calls a0 a1 t172 _ A8.out).mono ?_); rintro e w' ⟨rfl, ⟨nd, rfl⟩⟩) | (go_at_call 20; (with_reducible refine (heronryref02_Equal.calls k a0 a1 t173 _ A9.out).mono ?_); rintro e w' ⟨rfl, ⟨nd, rfl⟩⟩) | (go_at_call 21; (with_reducible refine (float_Min.calls a0 a1 t174 _ A11.out).mono ?_); rintro e w16 ⟨rfl, hb⟩; have n0_ := Aside0.mk (below_step (by repeat (first | (with_reducible first | exact HB.out | apply below_alloc | apply pw_below_drewN | apply below_drew1) | exact HB.out)) hb); clear HB; have HB := n0_; clear n0_; (try clear hb); (try clear hb2); (try clear hk); (try clear hi)) | (go_at_call 22; (with_reducible refine (heronryref02_Min.calls a0 a1 t175 _ A12.out).mono ?_); rintro e w' ⟨rfl, ⟨nd, rfl⟩⟩) | (go_at_call 23; (with_reducible refine (float_Max.calls a0 a1 t176 _ A14.out).mono ?_); rintro e w17 ⟨rfl, hb⟩; have n0_ := Aside0.mk (below_step (by repeat (first | (with_reducible first | exact HB.out | apply below_alloc | apply pw_below_drewN | apply below_drew1) | exact HB.out)) hb); clear HB; have HB := n0_; clear n0_; (try clear hb); (try clear hb2); (try clear hk); (try clear hi)) | (go_at_call 24; (with_reducible refine (heronryref02_Max.calls a0 a1 t177 _ A15.out).mono ?_); rintro e w' ⟨rfl, ⟨nd, rfl⟩⟩))
          go_ret
          exact ⟨by first | rfl | (simp [errW_none, errW_some] <;> rfl) | (simp [*, errW_none, errW_some] <;> rfl), by repeat (first | (with_reducible first | exact HB.out | apply below_alloc | apply pw_below_drewN | apply below_drew1) | exact HB.out)⟩
        · rw [if_neg c13] at H
          have c13b0 : (t174 == t175) = false := beq_eq_false_iff_ne.mpr c13
          have c13b1 : (t174 != t175) = true := bne_iff_ne.mpr c13
          obtain rfl := Option.some.inj H
          exact absurd hT_.out (by decide)
      · rw [if_neg c10] at H
        have c10b0 : (t172 == t173) = false := by simpa using c10
        (try (have c10b1 : decide (t172 = t173) = false := by simpa using c10))
        (try (have c10b2 : (t172 == t173) = false := by simpa using c10))
        (try (have c10b3 : ¬ (t172 = t173) := by simpa using c10))
        clear c10
        obtain rfl := Option.some.inj H
        exact absurd hT_.out (by decide)
    · rw [if_neg c7] at H
      have c7b0 : (t170 == t171) = false := by simpa using c7
      (try (have c7b1 : decide (t170 = t171) = false := by simpa using c7))
      (try (have c7b2 : (t170 == t171) = false := by simpa using c7))
      (try (have c7b3 : ¬ (t170 = t171) := by simpa using c7))
      clear c7
      obtain rfl := Option.some.inj H
      exact absurd hT_.out (by decide)
  · replace c4 := Bool.eq_false_iff.mpr c4
    subst c4
    have H1 : (some false) = some r := by rw [if_neg (show ¬ (false = true) by decide)] at H; exact H
    clear H
    have H := H1
    clear H1
    obtain rfl := Option.some.inj H
    exact absurd hT_.out (by decide)

/-- THE ONE PURE STATEMENT of heronrylaw02_FloatTwo: yours. -/
def heronrylaw02_FloatTwo.Pure : Prop := ∀ (a0 : Int) (a1 : Int), (Lit.int .u64 a0).wf = true → (Lit.int .u64 a1).wf = true → ∃ k, heronrylaw02_FloatTwo.f k a0 a1 = some true
theorem heronrylaw02_FloatTwo.walk (P : heronrylaw02_FloatTwo.Pure) (a0 : Int) (a1 : Int) (w : World) (w0 : (Lit.int .u64 a0).wf = true) (w1 : (Lit.int .u64 a1).wf = true) :
    Calls Try.prog 5 #[.int .u64 a0, .int .u64 a1] w fun e w' => e = .returned (.bool true) ∧ Below w.heap.size w w' := by
  obtain ⟨k, h⟩ := P a0 a1 w0 w1
  refine (heronrylaw02_FloatTwo.calls k a0 a1 true w ⟨rfl⟩ h).mono ?_
  rintro e w' ⟨rfl, hd⟩
  exact ⟨rfl, hd⟩

end Go.Proofs.Ytkcoabnghdlboaa.Q
