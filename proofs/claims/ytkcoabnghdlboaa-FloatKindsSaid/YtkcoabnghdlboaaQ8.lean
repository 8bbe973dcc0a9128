-- Written by hprint.py (the kit's printer, with functions that are given). Lean checks it.
import Derived.Test.YtkcoabnghdlboaaQ0
import Derived.Test.YtkcoabnghdlboaaQ1
import Derived.Test.YtkcoabnghdlboaaQ7
import Derived.Test.YtkcoabnghdlboaaH6
namespace Go.Proofs.Ytkcoabnghdlboaa.Q
open Go.RowKit Go.Proofs.YtkcoabnghdlboaaW.PrintWords Go.Proofs.YtkcoabnghdlboaaW.PrintLast Go.Proofs.YtkcoabnghdlboaaW.PrintMore
attribute [local go_sem] max2_int min2_int max_two min_two max_three min_three max_four min_four   -- for this text's walks alone
set_option linter.unusedVariables false
set_option linter.unusedSimpArgs false

/-! ### heronrylaw02_FloatKinds: function 8 -/
def heronrylaw02_FloatKinds.j0 : Nat → Int → Bool → Int → Int → Bool → Option (Bool)
  | 0, _, _, _, _, _ => none
  | k + 1, x0, x3, x4, x7, x41 => if x41 = true then (some false) else (if x3 = true then (if x4 ≥ 0 then (if x4 ≤ 4 then ((float_Class.f x7).bind fun t225 => (if t225 = x4 then ((float_Neg.f x0).bind fun t226 => ((float_Class.f t226).bind fun t227 => (if t227 = x4 then ((float_Neg.f x0).bind fun t228 => ((float_Neg.f t228).bind fun t229 => (if t229 = x0 then (if x7 = x0 then ((float_Less.f x7 0).bind fun t230 => (if t230 = true then (some false) else ((float_Equal.f x0 x0).bind fun t231 => (if ((x4 == 4) == (!t231)) = true then (if x4 = 3 then (some (x7 == 9218868437227405312)) else (some true)) else (some false))))) else ((float_Neg.f x0).bind fun t232 => (if x7 = t232 then ((float_Less.f x7 0).bind fun t233 => (if t233 = true then (some false) else ((float_Equal.f x0 x0).bind fun t234 => (if ((x4 == 4) == (!t234)) = true then (if x4 = 3 then (some (x7 == 9218868437227405312)) else (some true)) else (some false))))) else (some false)))) else (some false)))) else (some false)))) else (some false))) else (some false)) else (some false)) else (some false))
def heronrylaw02_FloatKinds.f (k : Nat) (a0 : Int) : Option (Bool) := (heronrylaw02_awake.f).bind fun t220 => ((float_Class.f a0).bind fun t221 => ((float_Int.f a0).bind fun bt222 => ((float_Abs.f a0).bind fun t224 => (if bt222.2 = true then (if t221 = 0 then (if ((bt222.1 == 0) != (t221 == 0)) = true then (heronrylaw02_FloatKinds.j0 k a0 t220 t221 t224 true) else (heronrylaw02_FloatKinds.j0 k a0 t220 t221 t224 false)) else (if t221 = 2 then (if ((bt222.1 == 0) != (t221 == 0)) = true then (heronrylaw02_FloatKinds.j0 k a0 t220 t221 t224 true) else (heronrylaw02_FloatKinds.j0 k a0 t220 t221 t224 false)) else (heronrylaw02_FloatKinds.j0 k a0 t220 t221 t224 true))) else (heronrylaw02_FloatKinds.j0 k a0 t220 t221 t224 (t221 == 0))))))
theorem heronrylaw02_FloatKinds.mono_l : ∀ k, (∀ y0 y1 y2 y3 y4, LeO (heronrylaw02_FloatKinds.j0 k y0 y1 y2 y3 y4) (heronrylaw02_FloatKinds.j0 (k + 1) y0 y1 y2 y3 y4))
  | 0 => fun _ _ _ _ _ r h => by simp [heronrylaw02_FloatKinds.j0] at h
  | k + 1 => by
    have ih0 := heronrylaw02_FloatKinds.mono_l k
    · intro y0 y1 y2 y3 y4
      unfold heronrylaw02_FloatKinds.j0
      repeat' first
      | (with_reducible exact ih0 _ _ _ _ _)
      | (with_reducible exact LeO.refl _)
      | (with_reducible exact LeO.none _)
      | (with_reducible refine LeO.ite ?_ ?_)
      | (with_reducible refine LeO.bind ?_ (fun _ => ?_))
      | exact ih0 _ _ _ _ _
      | exact LeO.none _
      | refine LeO.ite ?_ ?_
      | refine LeO.bind ?_ (fun _ => ?_)
theorem heronrylaw02_FloatKinds.mono : ∀ a0 k, LeO (heronrylaw02_FloatKinds.f k a0) (heronrylaw02_FloatKinds.f (k + 1) a0) := by
  intro a0 k
  have ih0 := heronrylaw02_FloatKinds.mono_l k
  unfold heronrylaw02_FloatKinds.f
  repeat' first
      | (with_reducible exact ih0 _ _ _ _ _)
      | (with_reducible exact LeO.refl _)
      | (with_reducible exact LeO.none _)
      | (with_reducible refine LeO.ite ?_ ?_)
      | (with_reducible refine LeO.bind ?_ (fun _ => ?_))
      | exact ih0 _ _ _ _ _
      | exact LeO.none _
      | refine LeO.ite ?_ ?_
      | refine LeO.bind ?_ (fun _ => ?_)
set_option maxHeartbeats 8000000 in
set_option maxRecDepth 100000 in
theorem heronrylaw02_FloatKinds.calls (k : Nat) (a0 : Int) (r : Bool) (w : World) (hT_ : Aside0 (r = true)) (h : heronrylaw02_FloatKinds.f k a0 = some r) :
    Calls Try.prog 8 #[.int .u64 a0] w fun e w' => e = .returned (.bool r) ∧ Drawn0 w w' := by
  have H : ((heronrylaw02_awake.f).bind fun t220 => ((float_Class.f a0).bind fun t221 => ((float_Int.f a0).bind fun bt222 => ((float_Abs.f a0).bind fun t224 => (if bt222.2 = true then (if t221 = 0 then (if ((bt222.1 == 0) != (t221 == 0)) = true then (heronrylaw02_FloatKinds.j0 k a0 t220 t221 t224 true) else (heronrylaw02_FloatKinds.j0 k a0 t220 t221 t224 false)) else (if t221 = 2 then (if ((bt222.1 == 0) != (t221 == 0)) = true then (heronrylaw02_FloatKinds.j0 k a0 t220 t221 t224 true) else (heronrylaw02_FloatKinds.j0 k a0 t220 t221 t224 false)) else (heronrylaw02_FloatKinds.j0 k a0 t220 t221 t224 true))) else (heronrylaw02_FloatKinds.j0 k a0 t220 t221 t224 (t221 == 0))))))) = some r := h
  clear h
  replace H := Option.bind_eq_some_iff.mp H
  obtain ⟨t220, A20, H⟩ := H
  replace H : ((float_Class.f a0).bind fun t221 => ((float_Int.f a0).bind fun bt222 => ((float_Abs.f a0).bind fun t224 => (if bt222.2 = true then (if t221 = 0 then (if ((bt222.1 == 0) != (t221 == 0)) = true then (heronrylaw02_FloatKinds.j0 k a0 t220 t221 t224 true) else (heronrylaw02_FloatKinds.j0 k a0 t220 t221 t224 false)) else (if t221 = 2 then (if ((bt222.1 == 0) != (t221 == 0)) = true then (heronrylaw02_FloatKinds.j0 k a0 t220 t221 t224 true) else (heronrylaw02_FloatKinds.j0 k a0 t220 t221 t224 false)) else (heronrylaw02_FloatKinds.j0 k a0 t220 t221 t224 true))) else (heronrylaw02_FloatKinds.j0 k a0 t220 t221 t224 (t221 == 0)))))) = some r := H
  have A2 := Aside0.mk A20
  clear A20
  replace H := Option.bind_eq_some_iff.mp H
  obtain ⟨t221, A30, H⟩ := H
  replace H : ((float_Int.f a0).bind fun bt222 => ((float_Abs.f a0).bind fun t224 => (if bt222.2 = true then (if t221 = 0 then (if ((bt222.1 == 0) != (t221 == 0)) = true then (heronrylaw02_FloatKinds.j0 k a0 t220 t221 t224 true) else (heronrylaw02_FloatKinds.j0 k a0 t220 t221 t224 false)) else (if t221 = 2 then (if ((bt222.1 == 0) != (t221 == 0)) = true then (heronrylaw02_FloatKinds.j0 k a0 t220 t221 t224 true) else (heronrylaw02_FloatKinds.j0 k a0 t220 t221 t224 false)) else (heronrylaw02_FloatKinds.j0 k a0 t220 t221 t224 true))) else (heronrylaw02_FloatKinds.j0 k a0 t220 t221 t224 (t221 == 0))))) = some r := H
  have A3 := Aside0.mk A30
  clear A30
  replace H := Option.bind_eq_some_iff.mp H
  obtain ⟨⟨t222, t223⟩, A40, H⟩ := H
  replace H : ((float_Abs.f a0).bind fun t224 => (if t223 = true then (if t221 = 0 then (if ((t222 == 0) != (t221 == 0)) = true then (heronrylaw02_FloatKinds.j0 k a0 t220 t221 t224 true) else (heronrylaw02_FloatKinds.j0 k a0 t220 t221 t224 false)) else (if t221 = 2 then (if ((t222 == 0) != (t221 == 0)) = true then (heronrylaw02_FloatKinds.j0 k a0 t220 t221 t224 true) else (heronrylaw02_FloatKinds.j0 k a0 t220 t221 t224 false)) else (heronrylaw02_FloatKinds.j0 k a0 t220 t221 t224 true))) else (heronrylaw02_FloatKinds.j0 k a0 t220 t221 t224 (t221 == 0)))) = some r := H
  have A4 := Aside0.mk A40
  clear A40
  replace H := Option.bind_eq_some_iff.mp H
  obtain ⟨t224, A50, H⟩ := H
  replace H : (if t223 = true then (if t221 = 0 then (if ((t222 == 0) != (t221 == 0)) = true then (heronrylaw02_FloatKinds.j0 k a0 t220 t221 t224 true) else (heronrylaw02_FloatKinds.j0 k a0 t220 t221 t224 false)) else (if t221 = 2 then (if ((t222 == 0) != (t221 == 0)) = true then (heronrylaw02_FloatKinds.j0 k a0 t220 t221 t224 true) else (heronrylaw02_FloatKinds.j0 k a0 t220 t221 t224 false)) else (heronrylaw02_FloatKinds.j0 k a0 t220 t221 t224 true))) else (heronrylaw02_FloatKinds.j0 k a0 t220 t221 t224 (t221 == 0))) = some r := H
  have A5 := Aside0.mk A50
  clear A50
  have HC6 := Aside0.mk H
  clear H
  go_enter Try.func8, Try.ntmps8
  go_upto_region 5 with (first | ((with_reducible refine gate_callee (f := 11) rfl ?_); refine goesL_ (some 8) rfl rfl Try.func11 (by kernel_rfl) rfl #[] rfl (by (try simp only [List.map_toArray, List.map_cons, List.map_nil]); first | done | rfl | (simp only [List.length_drop, List.length_take]; rfl)) ?_; (with_reducible refine (heronrylaw02_awake.calls  t220 _ A2.out).mono ?_); rintro e w' ⟨rfl, ⟨nd, rfl⟩⟩; refine ⟨_, rfl, ?_⟩) | ((with_reducible refine gate_callee (f := 17) rfl ?_); refine goesL_ (some 10) rfl rfl Try.func17 (by kernel_rfl) rfl #[.int .u64 a0] rfl (by (try simp only [List.map_toArray, List.map_cons, List.map_nil]); first | done | rfl | (simp only [List.length_drop, List.length_take]; rfl)) ?_; (with_reducible refine (float_Class.calls a0 t221 _ A3.out).mono ?_); rintro e w' ⟨rfl, ⟨nd, rfl⟩⟩; refine ⟨_, rfl, ?_⟩) | ((with_reducible refine gate_callee (f := 25) rfl ?_); refine goesL_ (some 13) rfl rfl Try.func25 (by kernel_rfl) rfl #[.int .u64 a0] rfl (by (try simp only [List.map_toArray, List.map_cons, List.map_nil]); first | done | rfl | (simp only [List.length_drop, List.length_take]; rfl)) ?_; (with_reducible refine (float_Int.calls a0 t222 t223 _ A4.out).mono ?_); rintro e w' ⟨rfl, ⟨nd, rfl⟩⟩; refine ⟨_, rfl, ?_⟩) | ((with_reducible refine gate_callee (f := 28) rfl ?_); refine goesL_ (some 17) rfl rfl Try.func28 (by kernel_rfl) rfl #[.int .u64 a0] rfl (by (try simp only [List.map_toArray, List.map_cons, List.map_nil]); first | done | rfl | (simp only [List.length_drop, List.length_take]; rfl)) ?_; (with_reducible refine (float_Abs.calls a0 t224 _ A5.out).mono ?_); rintro e w' ⟨rfl, ⟨nd, rfl⟩⟩; refine ⟨_, rfl, ?_⟩))
  (try simp only [Act.put, List.setIfInBounds_toArray, List.set_cons_zero, List.set_cons_succ])
  go_cut [41] (fun v41 wc => ∃ (kq : Nat) (x41_5 : Bool), v41 = .bool x41_5 ∧ Aside0 (heronrylaw02_FloatKinds.j0 kq a0 t220 t221 t224 x41_5 = some r) ∧ Aside0 (kq ≤ k) ∧ Drawn0 w wc)
  case first =>
    have H := HC6.out
    clear HC6
    by_cases c7 : t223 = true
    · subst c7
      have H1 : (if t221 = 0 then (if ((t222 == 0) != (t221 == 0)) = true then (heronrylaw02_FloatKinds.j0 k a0 t220 t221 t224 true) else (heronrylaw02_FloatKinds.j0 k a0 t220 t221 t224 false)) else (if t221 = 2 then (if ((t222 == 0) != (t221 == 0)) = true then (heronrylaw02_FloatKinds.j0 k a0 t220 t221 t224 true) else (heronrylaw02_FloatKinds.j0 k a0 t220 t221 t224 false)) else (heronrylaw02_FloatKinds.j0 k a0 t220 t221 t224 true))) = some r := by rw [if_pos rfl] at H; exact H
      clear H
      have H := H1
      clear H1
      by_cases c8 : t221 = 0
      · rw [if_pos c8] at H
        have c8b0 : (t221 == 0) = true := beq_iff_eq.mpr c8
        have c8b1 : (t221 != 0) = false := bne_eq_false_iff_eq.mpr c8
        clear c8
        (first | rw [c8b0] | (simp only [i64_w, i32_w]; rw [c8b0]) | skip)
        by_cases c9 : ((t222 == 0) != (t221 == 0)) = true
        · rw [if_pos c9] at H
          have c9b0 : ((t222 == 0) != (t221 == 0)) = true := c9
          (try (have c9b1 : decide ((t222 == 0) = (t221 == 0)) = false := by simpa using c9))
          (try (have c9b2 : ((t222 == 0) == (t221 == 0)) = false := by simpa using c9))
          (try (have c9b3 : ¬ ((t222 == 0) = (t221 == 0)) := by simpa using c9))
          have cz : (t222 == 0) = false := by rw [c8b0] at c9b0; simpa using c9b0
          clear c9
          have H' := Aside0.mk H
          clear H
          go_wp2
          go_meet
          case rel => exact ⟨_, (true), (by first | rfl | (simp; done) | (simp [*]; done)), H', ⟨by first | omega | exact Nat.le_refl _⟩, by repeat (first | exact Drawn0.refl _ | apply Drawn0.step)⟩
        · rw [if_neg c9] at H
          have c9b0 : ((t222 == 0) != (t221 == 0)) = false := by simpa using c9
          (try (have c9b1 : decide ((t222 == 0) = (t221 == 0)) = true := by simpa using c9))
          (try (have c9b2 : ((t222 == 0) == (t221 == 0)) = true := by simpa using c9))
          have cz : (t222 == 0) = true := by rw [c8b0] at c9b0; simpa using c9b0
          clear c9
          have H' := Aside0.mk H
          clear H
          go_wp2
          go_meet
          case rel => exact ⟨_, (false), (by first | rfl | (simp; done) | (simp [*]; done)), H', ⟨by first | omega | exact Nat.le_refl _⟩, by repeat (first | exact Drawn0.refl _ | apply Drawn0.step)⟩
      · rw [if_neg c8] at H
        have c8b0 : (t221 == 0) = false := beq_eq_false_iff_ne.mpr c8
        have c8b1 : (t221 != 0) = true := bne_iff_ne.mpr c8
        (first | rw [c8b0] | (simp only [i64_w, i32_w]; rw [c8b0]) | skip)
        by_cases c10 : t221 = 2
        · rw [if_pos c10] at H
          have c10b0 : (t221 == 2) = true := beq_iff_eq.mpr c10
          have c10b1 : (t221 != 2) = false := bne_eq_false_iff_eq.mpr c10
          clear c10
          by_cases c11 : ((t222 == 0) != (t221 == 0)) = true
          · rw [if_pos c11] at H
            have c11b0 : ((t222 == 0) != (t221 == 0)) = true := c11
            (try (have c11b1 : decide ((t222 == 0) = (t221 == 0)) = false := by simpa using c11))
            (try (have c11b2 : ((t222 == 0) == (t221 == 0)) = false := by simpa using c11))
            (try (have c11b3 : ¬ ((t222 == 0) = (t221 == 0)) := by simpa using c11))
            have cz : (t222 == 0) = true := by rw [c8b0] at c11b0; simpa using c11b0
            clear c11
            have H' := Aside0.mk H
            clear H
            go_wp2
            go_meet
            case rel => exact ⟨_, (true), (by first | rfl | (simp; done) | (simp [*]; done)), H', ⟨by first | omega | exact Nat.le_refl _⟩, by repeat (first | exact Drawn0.refl _ | apply Drawn0.step)⟩
          · rw [if_neg c11] at H
            have c11b0 : ((t222 == 0) != (t221 == 0)) = false := by simpa using c11
            (try (have c11b1 : decide ((t222 == 0) = (t221 == 0)) = true := by simpa using c11))
            (try (have c11b2 : ((t222 == 0) == (t221 == 0)) = true := by simpa using c11))
            have cz : (t222 == 0) = false := by rw [c8b0] at c11b0; simpa using c11b0
            clear c11
            have H' := Aside0.mk H
            clear H
            go_wp2
            go_meet
            case rel => exact ⟨_, (false), (by first | rfl | (simp; done) | (simp [*]; done)), H', ⟨by first | omega | exact Nat.le_refl _⟩, by repeat (first | exact Drawn0.refl _ | apply Drawn0.step)⟩
        · rw [if_neg c10] at H
          have c10b0 : (t221 == 2) = false := beq_eq_false_iff_ne.mpr c10
          have c10b1 : (t221 != 2) = true := bne_iff_ne.mpr c10
          have H' := Aside0.mk H
          clear H
          go_wp2
          go_meet
          case rel => exact ⟨_, (true), (by first | rfl | (simp; done) | (simp [*]; done)), H', ⟨by first | omega | exact Nat.le_refl _⟩, by repeat (first | exact Drawn0.refl _ | apply Drawn0.step)⟩
    · replace c7 := Bool.eq_false_iff.mpr c7
      subst c7
      have H1 : (heronrylaw02_FloatKinds.j0 k a0 t220 t221 t224 (t221 == 0)) = some r := by rw [if_neg (show ¬ (false = true) by decide)] at H; exact H
      clear H
      have H := H1
      clear H1
      have H' := Aside0.mk H
      clear H
      go_wp2
      go_meet
      case rel => exact ⟨_, ((t221 == 0)), (by first | rfl | (simp; done) | (simp [*]; done)), H', ⟨by first | omega | exact Nat.le_refl _⟩, by repeat (first | exact Drawn0.refl _ | apply Drawn0.step)⟩
  case rest =>
    clear HC6
    try clear c1
    try clear c2
    try clear p2
    try clear c7
    try clear c8
    try clear c8b0
    try clear c8b1
    try clear c9
    try clear c9b0
    try clear c9b1
    try clear c9b2
    try clear c10
    try clear c10b0
    try clear c10b1
    try clear c11
    try clear c11b0
    try clear c11b1
    try clear c11b2
    obtain ⟨kq, x41_5, rfl, HA, HJ5, ⟨mc5, rfl⟩⟩ := hcut
    cases kq with
    | zero => exact absurd HA.out (by simp [heronrylaw02_FloatKinds.j0])
    | succ kj5 =>
      have H := HA.out
      clear HA
      simp only [heronrylaw02_FloatKinds.j0] at H
      by_cases c12 : x41_5 = true
      · subst c12
        have H1 : (some false) = some r := by rw [if_pos rfl] at H; exact H
        clear H
        have H := H1
        clear H1
        obtain rfl := Option.some.inj H
        exact absurd hT_.out (by decide)
      · replace c12 := Bool.eq_false_iff.mpr c12
        subst c12
        have H1 : (if t220 = true then (if t221 ≥ 0 then (if t221 ≤ 4 then ((float_Class.f t224).bind fun t225 => (if t225 = t221 then ((float_Neg.f a0).bind fun t226 => ((float_Class.f t226).bind fun t227 => (if t227 = t221 then ((float_Neg.f a0).bind fun t228 => ((float_Neg.f t228).bind fun t229 => (if t229 = a0 then (if t224 = a0 then ((float_Less.f t224 0).bind fun t230 => (if t230 = true then (some false) else ((float_Equal.f a0 a0).bind fun t231 => (if ((t221 == 4) == (!t231)) = true then (if t221 = 3 then (some (t224 == 9218868437227405312)) else (some true)) else (some false))))) else ((float_Neg.f a0).bind fun t232 => (if t224 = t232 then ((float_Less.f t224 0).bind fun t233 => (if t233 = true then (some false) else ((float_Equal.f a0 a0).bind fun t234 => (if ((t221 == 4) == (!t234)) = true then (if t221 = 3 then (some (t224 == 9218868437227405312)) else (some true)) else (some false))))) else (some false)))) else (some false)))) else (some false)))) else (some false))) else (some false)) else (some false)) else (some false)) = some r := by rw [if_neg (show ¬ (false = true) by decide)] at H; exact H
        clear H
        have H := H1
        clear H1
        by_cases c13 : t220 = true
        · subst c13
          have H1 : (if t221 ≥ 0 then (if t221 ≤ 4 then ((float_Class.f t224).bind fun t225 => (if t225 = t221 then ((float_Neg.f a0).bind fun t226 => ((float_Class.f t226).bind fun t227 => (if t227 = t221 then ((float_Neg.f a0).bind fun t228 => ((float_Neg.f t228).bind fun t229 => (if t229 = a0 then (if t224 = a0 then ((float_Less.f t224 0).bind fun t230 => (if t230 = true then (some false) else ((float_Equal.f a0 a0).bind fun t231 => (if ((t221 == 4) == (!t231)) = true then (if t221 = 3 then (some (t224 == 9218868437227405312)) else (some true)) else (some false))))) else ((float_Neg.f a0).bind fun t232 => (if t224 = t232 then ((float_Less.f t224 0).bind fun t233 => (if t233 = true then (some false) else ((float_Equal.f a0 a0).bind fun t234 => (if ((t221 == 4) == (!t234)) = true then (if t221 = 3 then (some (t224 == 9218868437227405312)) else (some true)) else (some false))))) else (some false)))) else (some false)))) else (some false)))) else (some false))) else (some false)) else (some false)) = some r := by rw [if_pos rfl] at H; exact H
          clear H
          have H := H1
          clear H1
          by_cases c14 : t221 ≥ 0
          · rw [if_pos c14] at H
            have c14b0 : decide (0 ≤ t221) = true := decide_eq_true c14
            clear c14
            by_cases c15 : t221 ≤ 4
            · rw [if_pos c15] at H
              have c15b0 : decide (t221 ≤ 4) = true := decide_eq_true c15
              clear c15
              replace H := Option.bind_eq_some_iff.mp H
              obtain ⟨t225, A160, H⟩ := H
              replace H : (if t225 = t221 then ((float_Neg.f a0).bind fun t226 => ((float_Class.f t226).bind fun t227 => (if t227 = t221 then ((float_Neg.f a0).bind fun t228 => ((float_Neg.f t228).bind fun t229 => (if t229 = a0 then (if t224 = a0 then ((float_Less.f t224 0).bind fun t230 => (if t230 = true then (some false) else ((float_Equal.f a0 a0).bind fun t231 => (if ((t221 == 4) == (!t231)) = true then (if t221 = 3 then (some (t224 == 9218868437227405312)) else (some true)) else (some false))))) else ((float_Neg.f a0).bind fun t232 => (if t224 = t232 then ((float_Less.f t224 0).bind fun t233 => (if t233 = true then (some false) else ((float_Equal.f a0 a0).bind fun t234 => (if ((t221 == 4) == (!t234)) = true then (if t221 = 3 then (some (t224 == 9218868437227405312)) else (some true)) else (some false))))) else (some false)))) else (some false)))) else (some false)))) else (some false)) = some r := H
              have A16 := Aside0.mk A160
              clear A160
              by_cases c17 : t225 = t221
              · rw [if_pos c17] at H
                have c17b0 : (t225 == t221) = true := beq_iff_eq.mpr c17
                have c17b1 : (t225 != t221) = false := bne_eq_false_iff_eq.mpr c17
                clear c17
                replace H := Option.bind_eq_some_iff.mp H
                obtain ⟨t226, A180, H⟩ := H
                replace H : ((float_Class.f t226).bind fun t227 => (if t227 = t221 then ((float_Neg.f a0).bind fun t228 => ((float_Neg.f t228).bind fun t229 => (if t229 = a0 then (if t224 = a0 then ((float_Less.f t224 0).bind fun t230 => (if t230 = true then (some false) else ((float_Equal.f a0 a0).bind fun t231 => (if ((t221 == 4) == (!t231)) = true then (if t221 = 3 then (some (t224 == 9218868437227405312)) else (some true)) else (some false))))) else ((float_Neg.f a0).bind fun t232 => (if t224 = t232 then ((float_Less.f t224 0).bind fun t233 => (if t233 = true then (some false) else ((float_Equal.f a0 a0).bind fun t234 => (if ((t221 == 4) == (!t234)) = true then (if t221 = 3 then (some (t224 == 9218868437227405312)) else (some true)) else (some false))))) else (some false)))) else (some false)))) else (some false))) = some r := H
                have A18 := Aside0.mk A180
                clear A180
                replace H := Option.bind_eq_some_iff.mp H
                obtain ⟨t227, A190, H⟩ := H
                replace H : (if t227 = t221 then ((float_Neg.f a0).bind fun t228 => ((float_Neg.f t228).bind fun t229 => (if t229 = a0 then (if t224 = a0 then ((float_Less.f t224 0).bind fun t230 => (if t230 = true then (some false) else ((float_Equal.f a0 a0).bind fun t231 => (if ((t221 == 4) == (!t231)) = true then (if t221 = 3 then (some (t224 == 9218868437227405312)) else (some true)) else (some false))))) else ((float_Neg.f a0).bind fun t232 => (if t224 = t232 then ((float_Less.f t224 0).bind fun t233 => (if t233 = true then (some false) else ((float_Equal.f a0 a0).bind fun t234 => (if ((t221 == 4) == (!t234)) = true then (if t221 = 3 then (some (t224 == 9218868437227405312)) else (some true)) else (some false))))) else (some false)))) else (some false)))) else (some false)) = some r := H
                have A19 := Aside0.mk A190
                clear A190
                by_cases c20 : t227 = t221
                · rw [if_pos c20] at H
                  have c20b0 : (t227 == t221) = true := beq_iff_eq.mpr c20
                  have c20b1 : (t227 != t221) = false := bne_eq_false_iff_eq.mpr c20
                  clear c20
                  replace H := Option.bind_eq_some_iff.mp H
                  obtain ⟨t228, A210, H⟩ := H
                  obtain rfl : t226 = t228 := Option.some.inj (A18.out.symm.trans A210)
                  replace H : ((float_Neg.f t226).bind fun t229 => (if t229 = a0 then (if t224 = a0 then ((float_Less.f t224 0).bind fun t230 => (if t230 = true then (some false) else ((float_Equal.f a0 a0).bind fun t231 => (if ((t221 == 4) == (!t231)) = true then (if t221 = 3 then (some (t224 == 9218868437227405312)) else (some true)) else (some false))))) else ((float_Neg.f a0).bind fun t232 => (if t224 = t232 then ((float_Less.f t224 0).bind fun t233 => (if t233 = true then (some false) else ((float_Equal.f a0 a0).bind fun t234 => (if ((t221 == 4) == (!t234)) = true then (if t221 = 3 then (some (t224 == 9218868437227405312)) else (some true)) else (some false))))) else (some false)))) else (some false))) = some r := H
                  have A21 := Aside0.mk A210
                  clear A210
                  replace H := Option.bind_eq_some_iff.mp H
                  obtain ⟨t229, A220, H⟩ := H
                  replace H : (if t229 = a0 then (if t224 = a0 then ((float_Less.f t224 0).bind fun t230 => (if t230 = true then (some false) else ((float_Equal.f a0 a0).bind fun t231 => (if ((t221 == 4) == (!t231)) = true then (if t221 = 3 then (some (t224 == 9218868437227405312)) else (some true)) else (some false))))) else ((float_Neg.f a0).bind fun t232 => (if t224 = t232 then ((float_Less.f t224 0).bind fun t233 => (if t233 = true then (some false) else ((float_Equal.f a0 a0).bind fun t234 => (if ((t221 == 4) == (!t234)) = true then (if t221 = 3 then (some (t224 == 9218868437227405312)) else (some true)) else (some false))))) else (some false)))) else (some false)) = some r := H
                  have A22 := Aside0.mk A220
                  clear A220
                  by_cases c23 : t229 = a0
                  · rw [if_pos c23] at H
                    have c23b0 : (t229 == a0) = true := beq_iff_eq.mpr c23
                    have c23b1 : (t229 != a0) = false := bne_eq_false_iff_eq.mpr c23
                    clear c23
                    by_cases c24 : t224 = a0
                    · rw [if_pos c24] at H
                      have c24b0 : (t224 == a0) = true := beq_iff_eq.mpr c24
                      have c24b1 : (t224 != a0) = false := bne_eq_false_iff_eq.mpr c24
                      clear c24
                      replace H := Option.bind_eq_some_iff.mp H
                      obtain ⟨t230, A250, H⟩ := H
                      replace H : (if t230 = true then (some false) else ((float_Equal.f a0 a0).bind fun t231 => (if ((t221 == 4) == (!t231)) = true then (if t221 = 3 then (some (t224 == 9218868437227405312)) else (some true)) else (some false)))) = some r := H
                      have A25 := Aside0.mk A250
                      clear A250
                      by_cases c26 : t230 = true
                      · subst c26
                        have H1 : (some false) = some r := by rw [if_pos rfl] at H; exact H
                        clear H
                        have H := H1
                        clear H1
                        obtain rfl := Option.some.inj H
                        exact absurd hT_.out (by decide)
                      · replace c26 := Bool.eq_false_iff.mpr c26
                        subst c26
                        have H1 : ((float_Equal.f a0 a0).bind fun t231 => (if ((t221 == 4) == (!t231)) = true then (if t221 = 3 then (some (t224 == 9218868437227405312)) else (some true)) else (some false))) = some r := by rw [if_neg (show ¬ (false = true) by decide)] at H; exact H
                        clear H
                        have H := H1
                        clear H1
                        replace H := Option.bind_eq_some_iff.mp H
                        obtain ⟨t231, A270, H⟩ := H
                        replace H : (if ((t221 == 4) == (!t231)) = true then (if t221 = 3 then (some (t224 == 9218868437227405312)) else (some true)) else (some false)) = some r := H
                        have A27 := Aside0.mk A270
                        clear A270
                        by_cases c28 : ((t221 == 4) == (!t231)) = true
                        · rw [if_pos c28] at H
                          have c28b0 : ((t221 == 4) == (!t231)) = true := c28
                          (try (have c28b1 : decide ((t221 == 4) = (!t231)) = true := by simpa using c28))
                          (try (have c28b2 : ((t221 == 4) == (!t231)) = true := by simpa using c28))
                          clear c28
                          by_cases c29 : t221 = 3
                          · rw [if_pos c29] at H
                            have c29b0 : (t221 == 3) = true := beq_iff_eq.mpr c29
                            have c29b1 : (t221 != 3) = false := bne_eq_false_iff_eq.mpr c29
                            clear c29
                            obtain rfl := Option.some.inj H
                            go_wp2_with (first | (go_at_call 17; (with_reducible refine (float_Class.calls t224 t225 _ A16.out).mono ?_); rintro e w' ⟨rfl, ⟨nd, rfl⟩⟩) | (go_at_call 27; (with_reducible refine (float_Neg.calls a0 t226 _ A18.out).mono ?_); rintro e w' ⟨rfl, ⟨nd, rfl⟩⟩) | (go_at_call 17; (with_reducible refine (float_Class.calls t226 t227 _ A19.out).mono ?_); rintro e w' ⟨rfl, ⟨nd, rfl⟩⟩) | (go_at_call 27; (with_reducible refine (float_Neg.calls a0 t226 _ A21.out).mono ?_); rintro e w' ⟨rfl, ⟨nd, rfl⟩⟩) | (go_at_call 27; (with_reducible refine (float_Neg.calls t226 t229 _ A22.out).mono ?_); rintro e w' ⟨rfl, ⟨nd, rfl⟩⟩) | (go_at_call 15; (with_reducible refine (float_Less.calls t224 0 false _ A25.out).mono ?_); rintro e w' ⟨rfl, ⟨nd, rfl⟩⟩) | (go_at_call 16; (with_reducible refine (float_Equal.calls a0 a0 t231 _ A27.out).mono ?_); rintro e w' ⟨rfl, ⟨nd, rfl⟩⟩))
                            go_ret
                            exact ⟨by first | rfl | (simp; done) | (simp [*]; done), by repeat (first | exact Drawn0.refl _ | apply Drawn0.step)⟩
                          · rw [if_neg c29] at H
                            have c29b0 : (t221 == 3) = false := beq_eq_false_iff_ne.mpr c29
                            have c29b1 : (t221 != 3) = true := bne_iff_ne.mpr c29
                            obtain rfl := Option.some.inj H
                            go_wp2_with (first | (go_at_call 17; (with_reducible refine (float_Class.calls t224 t225 _ A16.out).mono ?_); rintro e w' ⟨rfl, ⟨nd, rfl⟩⟩) | (go_at_call 27; (with_reducible refine (float_Neg.calls a0 t226 _ A18.out).mono ?_); rintro e w' ⟨rfl, ⟨nd, rfl⟩⟩) | (go_at_call 17; (with_reducible refine (float_Class.calls t226 t227 _ A19.out).mono ?_); rintro e w' ⟨rfl, ⟨nd, rfl⟩⟩) | (go_at_call 27; (with_reducible refine (float_Neg.calls a0 t226 _ A21.out).mono ?_); rintro e w' ⟨rfl, ⟨nd, rfl⟩⟩) | (go_at_call 27; (with_reducible refine (float_Neg.calls t226 t229 _ A22.out).mono ?_); rintro e w' ⟨rfl, ⟨nd, rfl⟩⟩) | (go_at_call 15; (with_reducible refine (float_Less.calls t224 0 false _ A25.out).mono ?_); rintro e w' ⟨rfl, ⟨nd, rfl⟩⟩) | (go_at_call 16; (with_reducible refine (float_Equal.calls a0 a0 t231 _ A27.out).mono ?_); rintro e w' ⟨rfl, ⟨nd, rfl⟩⟩))
                            go_ret
                            exact ⟨by first | rfl | (simp; done) | (simp [*]; done), by repeat (first | exact Drawn0.refl _ | apply Drawn0.step)⟩
                        · rw [if_neg c28] at H
                          have c28b0 : ((t221 == 4) == (!t231)) = false := by simpa using c28
                          (try (have c28b1 : decide ((t221 == 4) = (!t231)) = false := by simpa using c28))
                          (try (have c28b2 : ((t221 == 4) == (!t231)) = false := by simpa using c28))
                          (try (have c28b3 : ¬ ((t221 == 4) = (!t231)) := by simpa using c28))
                          clear c28
                          obtain rfl := Option.some.inj H
                          exact absurd hT_.out (by decide)
                    · rw [if_neg c24] at H
                      have c24b0 : (t224 == a0) = false := beq_eq_false_iff_ne.mpr c24
                      have c24b1 : (t224 != a0) = true := bne_iff_ne.mpr c24
                      replace H := Option.bind_eq_some_iff.mp H
                      obtain ⟨t232, A300, H⟩ := H
                      obtain rfl : t226 = t232 := Option.some.inj (A18.out.symm.trans A300)
                      replace H : (if t224 = t226 then ((float_Less.f t224 0).bind fun t233 => (if t233 = true then (some false) else ((float_Equal.f a0 a0).bind fun t234 => (if ((t221 == 4) == (!t234)) = true then (if t221 = 3 then (some (t224 == 9218868437227405312)) else (some true)) else (some false))))) else (some false)) = some r := H
                      have A30 := Aside0.mk A300
                      clear A300
                      by_cases c31 : t224 = t226
                      · rw [if_pos c31] at H
                        have c31b0 : (t224 == t226) = true := beq_iff_eq.mpr c31
                        have c31b1 : (t224 != t226) = false := bne_eq_false_iff_eq.mpr c31
                        clear c31
                        replace H := Option.bind_eq_some_iff.mp H
                        obtain ⟨t233, A320, H⟩ := H
                        replace H : (if t233 = true then (some false) else ((float_Equal.f a0 a0).bind fun t234 => (if ((t221 == 4) == (!t234)) = true then (if t221 = 3 then (some (t224 == 9218868437227405312)) else (some true)) else (some false)))) = some r := H
                        have A32 := Aside0.mk A320
                        clear A320
                        by_cases c33 : t233 = true
                        · subst c33
                          have H1 : (some false) = some r := by rw [if_pos rfl] at H; exact H
                          clear H
                          have H := H1
                          clear H1
                          obtain rfl := Option.some.inj H
                          exact absurd hT_.out (by decide)
                        · replace c33 := Bool.eq_false_iff.mpr c33
                          subst c33
                          have H1 : ((float_Equal.f a0 a0).bind fun t234 => (if ((t221 == 4) == (!t234)) = true then (if t221 = 3 then (some (t224 == 9218868437227405312)) else (some true)) else (some false))) = some r := by rw [if_neg (show ¬ (false = true) by decide)] at H; exact H
                          clear H
                          have H := H1
                          clear H1
                          replace H := Option.bind_eq_some_iff.mp H
                          obtain ⟨t234, A340, H⟩ := H
                          replace H : (if ((t221 == 4) == (!t234)) = true then (if t221 = 3 then (some (t224 == 9218868437227405312)) else (some true)) else (some false)) = some r := H
                          have A34 := Aside0.mk A340
                          clear A340
                          by_cases c35 : ((t221 == 4) == (!t234)) = true
                          · rw [if_pos c35] at H
                            have c35b0 : ((t221 == 4) == (!t234)) = true := c35
                            (try (have c35b1 : decide ((t221 == 4) = (!t234)) = true := by simpa using c35))
                            (try (have c35b2 : ((t221 == 4) == (!t234)) = true := by simpa using c35))
                            clear c35
                            by_cases c36 : t221 = 3
                            · rw [if_pos c36] at H
                              have c36b0 : (t221 == 3) = true := beq_iff_eq.mpr c36
                              have c36b1 : (t221 != 3) = false := bne_eq_false_iff_eq.mpr c36
                              clear c36
                              obtain rfl := Option.some.inj H
                              go_wp2_with (first | (go_at_call 17; (with_reducible refine (float_Class.calls t224 t225 _ A16.out).mono ?_); rintro e w' ⟨rfl, ⟨nd, rfl⟩⟩) | (go_at_call 27; (with_reducible refine (float_Neg.calls a0 t226 _ A18.out).mono ?_); rintro e w' ⟨rfl, ⟨nd, rfl⟩⟩) | (go_at_call 17; (with_reducible refine (float_Class.calls t226 t227 _ A19.out).mono ?_); rintro e w' ⟨rfl, ⟨nd, rfl⟩⟩) | (go_at_call 27; (with_reducible refine (float_Neg.calls a0 t226 _ A21.out).mono ?_); rintro e w' ⟨rfl, ⟨nd, rfl⟩⟩) | (go_at_call 27; (with_reducible refine (float_Neg.calls t226 t229 _ A22.out).mono ?_); rintro e w' ⟨rfl, ⟨nd, rfl⟩⟩) | (go_at_call 27; (with_reducible refine (float_Neg.calls a0 t226 _ A30.out).mono ?_); rintro e w' ⟨rfl, ⟨nd, rfl⟩⟩) | (go_at_call 15; (with_reducible refine (float_Less.calls t224 0 false _ A32.out).mono ?_); rintro e w' ⟨rfl, ⟨nd, rfl⟩⟩) | (go_at_call 16; (with_reducible refine (float_Equal.calls a0 a0 t234 _ A34.out).mono ?_); rintro e w' ⟨rfl, ⟨nd, rfl⟩⟩))
                              go_ret
                              exact ⟨by first | rfl | (simp; done) | (simp [*]; done), by repeat (first | exact Drawn0.refl _ | apply Drawn0.step)⟩
                            · rw [if_neg c36] at H
                              have c36b0 : (t221 == 3) = false := beq_eq_false_iff_ne.mpr c36
                              have c36b1 : (t221 != 3) = true := bne_iff_ne.mpr c36
                              obtain rfl := Option.some.inj H
                              go_wp2_with (first | (go_at_call 17; (with_reducible refine (float_Class.calls t224 t225 _ A16.out).mono ?_); rintro e w' ⟨rfl, ⟨nd, rfl⟩⟩) | (go_at_call 27; (with_reducible refine (float_Neg.calls a0 t226 _ A18.out).mono ?_); rintro e w' ⟨rfl, ⟨nd, rfl⟩⟩) | (go_at_call 17; (with_reducible refine (float_Class.calls t226 t227 _ A19.out).mono ?_); rintro e w' ⟨rfl, ⟨nd, rfl⟩⟩) | (go_at_call 27; (with_reducible refine (float_Neg.calls a0 t226 _ A21.out).mono ?_); rintro e w' ⟨rfl, ⟨nd, rfl⟩⟩) | (go_at_call 27; (with_reducible refine (float_Neg.calls t226 t229 _ A22.out).mono ?_); rintro e w' ⟨rfl, ⟨nd, rfl⟩⟩) | (go_at_call 27; (with_reducible refine (float_Neg.calls a0 t226 _ A30.out).mono ?_); rintro e w' ⟨rfl, ⟨nd, rfl⟩⟩) | (go_at_call 15; (with_reducible refine (float_Less.calls t224 0 false _ A32.out).mono ?_); rintro e w' ⟨rfl, ⟨nd, rfl⟩⟩) | (go_at_call 16; (with_reducible refine (float_Equal.calls a0 a0 t234 _ A34.out).mono ?_); rintro e w' ⟨rfl, ⟨nd, rfl⟩⟩))
                              go_ret
                              exact ⟨by first | rfl | (simp; done) | (simp [*]; done), by repeat (first | exact Drawn0.refl _ | apply Drawn0.step)⟩
                          · rw [if_neg c35] at H
                            have c35b0 : ((t221 == 4) == (!t234)) = false := by simpa using c35
                            (try (have c35b1 : decide ((t221 == 4) = (!t234)) = false := by simpa using c35))
                            (try (have c35b2 : ((t221 == 4) == (!t234)) = false := by simpa using c35))
                            (try (have c35b3 : ¬ ((t221 == 4) = (!t234)) := by simpa using c35))
                            clear c35
                            obtain rfl := Option.some.inj H
                            exact absurd hT_.out (by decide)
                      · rw [if_neg c31] at H
                        have c31b0 : (t224 == t226) = false := beq_eq_false_iff_ne.mpr c31
                        have c31b1 : (t224 != t226) = true := bne_iff_ne.mpr c31
                        obtain rfl := Option.some.inj H
                        exact absurd hT_.out (by decide)
                  · rw [if_neg c23] at H
                    have c23b0 : (t229 == a0) = false := beq_eq_false_iff_ne.mpr c23
                    have c23b1 : (t229 != a0) = true := bne_iff_ne.mpr c23
                    obtain rfl := Option.some.inj H
                    exact absurd hT_.out (by decide)
                · rw [if_neg c20] at H
                  have c20b0 : (t227 == t221) = false := beq_eq_false_iff_ne.mpr c20
                  have c20b1 : (t227 != t221) = true := bne_iff_ne.mpr c20
                  obtain rfl := Option.some.inj H
                  exact absurd hT_.out (by decide)
              · rw [if_neg c17] at H
                have c17b0 : (t225 == t221) = false := beq_eq_false_iff_ne.mpr c17
                have c17b1 : (t225 != t221) = true := bne_iff_ne.mpr c17
                obtain rfl := Option.some.inj H
                exact absurd hT_.out (by decide)
            · rw [if_neg c15] at H
              have c15b0 : decide (t221 ≤ 4) = false := decide_eq_false c15
              clear c15
              obtain rfl := Option.some.inj H
              exact absurd hT_.out (by decide)
          · rw [if_neg c14] at H
            have c14b0 : decide (0 ≤ t221) = false := decide_eq_false c14
            clear c14
            obtain rfl := Option.some.inj H
            exact absurd hT_.out (by decide)
        · replace c13 := Bool.eq_false_iff.mpr c13
          subst c13
          have H1 : (some false) = some r := by rw [if_neg (show ¬ (false = true) by decide)] at H; exact H
          clear H
          have H := H1
          clear H1
          obtain rfl := Option.some.inj H
          exact absurd hT_.out (by decide)

/-- THE ONE PURE STATEMENT of heronrylaw02_FloatKinds: yours. -/
def heronrylaw02_FloatKinds.Pure : Prop := ∀ (a0 : Int), (Lit.int .u64 a0).wf = true → ∃ k, heronrylaw02_FloatKinds.f k a0 = some true
theorem heronrylaw02_FloatKinds.walk (P : heronrylaw02_FloatKinds.Pure) (a0 : Int) (w : World) (w0 : (Lit.int .u64 a0).wf = true) :
    Calls Try.prog 8 #[.int .u64 a0] w fun e w' => e = .returned (.bool true) ∧ Below w.heap.size w w' := by
  obtain ⟨k, h⟩ := P a0 w0
  refine (heronrylaw02_FloatKinds.calls k a0 true w ⟨rfl⟩ h).mono ?_
  rintro e w' ⟨rfl, hd⟩
  exact ⟨rfl, hd.below⟩

end Go.Proofs.Ytkcoabnghdlboaa.Q
