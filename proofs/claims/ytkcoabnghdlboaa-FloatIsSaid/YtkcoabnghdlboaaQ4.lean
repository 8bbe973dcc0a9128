-- Written by hprint.py (the kit's printer, with functions that are given). Lean checks it.
import Derived.Test.YtkcoabnghdlboaaQ0
import Derived.Test.YtkcoabnghdlboaaQ3
namespace Go.Proofs.Ytkcoabnghdlboaa.Q
open Go.RowKit Go.Proofs.YtkcoabnghdlboaaW.PrintWords Go.Proofs.YtkcoabnghdlboaaW.PrintLast Go.Proofs.YtkcoabnghdlboaaW.PrintMore
attribute [local go_sem] max2_int min2_int max_two min_two max_three min_three max_four min_four   -- for this text's walks alone
set_option linter.unusedVariables false
set_option linter.unusedSimpArgs false

/-! ### heronryref02_sign: function 43 -/
def heronryref02_sign.f (a0 : Int) : Option (Int) := some (a0 / 9223372036854775808)
set_option maxHeartbeats 8000000 in
set_option maxRecDepth 100000 in
theorem heronryref02_sign.calls (a0 : Int) (r : Int) (w : World) (h : heronryref02_sign.f a0 = some r) :
    Calls Try.prog 43 #[.int .u64 a0] w fun e w' => e = .returned (.int .u64 r) ∧ Drawn0 w w' := by
  have H : (some (a0 / 9223372036854775808)) = some r := h
  clear h
  obtain rfl := Option.some.inj H
  go_enter Try.func43, Try.ntmps43
  go_wp2
  go_ret
  exact ⟨by first | rfl | (simp; done) | (simp [*]; done), by repeat (first | exact Drawn0.refl _ | apply Drawn0.step)⟩

/-! ### heronryref02_Less: function 19 -/
def heronryref02_Less.j0 : Nat → Int → Int → Bool → Option (Bool)
  | 0, _, _, _ => none
  | k + 1, x0, x1, x22 => if x22 = true then (some false) else ((heronryref02_sign.f x0).bind fun t144 => ((heronryref02_sign.f x1).bind fun t145 => (if t144 = t145 then ((heronryref02_sign.f x0).bind fun t147 => (if t147 = 1 then ((heronryref02_size.f x0).bind fun t148 => ((heronryref02_size.f x1).bind fun t149 => (some (decide (t148 > t149))))) else ((heronryref02_size.f x0).bind fun t150 => ((heronryref02_size.f x1).bind fun t151 => (some (decide (t150 < t151))))))) else ((heronryref02_sign.f x0).bind fun t146 => (some (t146 == 1))))))
def heronryref02_Less.f (k : Nat) (a0 : Int) (a1 : Int) : Option (Bool) := (heronryref02_Class.f a0).bind fun t140 => (if t140 = 4 then (heronryref02_Less.j0 k a0 a1 true) else ((heronryref02_Class.f a1).bind fun t141 => (if t141 = 4 then (heronryref02_Less.j0 k a0 a1 true) else ((heronryref02_size.f a0).bind fun t142 => (if t142 = 0 then ((heronryref02_size.f a1).bind fun t143 => (heronryref02_Less.j0 k a0 a1 (t143 == 0))) else (heronryref02_Less.j0 k a0 a1 false))))))
theorem heronryref02_Less.mono_l : ∀ k, (∀ y0 y1 y2, LeO (heronryref02_Less.j0 k y0 y1 y2) (heronryref02_Less.j0 (k + 1) y0 y1 y2))
  | 0 => fun _ _ _ r h => by simp [heronryref02_Less.j0] at h
  | k + 1 => by
    have ih0 := heronryref02_Less.mono_l k
    · intro y0 y1 y2
      unfold heronryref02_Less.j0
      repeat' first
      | (with_reducible exact ih0 _ _ _)
      | (with_reducible exact LeO.refl _)
      | (with_reducible exact LeO.none _)
      | (with_reducible refine LeO.ite ?_ ?_)
      | (with_reducible refine LeO.bind ?_ (fun _ => ?_))
      | exact ih0 _ _ _
      | exact LeO.none _
      | refine LeO.ite ?_ ?_
      | refine LeO.bind ?_ (fun _ => ?_)
theorem heronryref02_Less.mono : ∀ a0 a1 k, LeO (heronryref02_Less.f k a0 a1) (heronryref02_Less.f (k + 1) a0 a1) := by
  intro a0 a1 k
  have ih0 := heronryref02_Less.mono_l k
  unfold heronryref02_Less.f
  repeat' first
      | (with_reducible exact ih0 _ _ _)
      | (with_reducible exact LeO.refl _)
      | (with_reducible exact LeO.none _)
      | (with_reducible refine LeO.ite ?_ ?_)
      | (with_reducible refine LeO.bind ?_ (fun _ => ?_))
      | exact ih0 _ _ _
      | exact LeO.none _
      | refine LeO.ite ?_ ?_
      | refine LeO.bind ?_ (fun _ => ?_)
set_option maxHeartbeats 8000000 in
set_option maxRecDepth 100000 in
theorem heronryref02_Less.calls (k : Nat) (a0 : Int) (a1 : Int) (r : Bool) (w : World) (h : heronryref02_Less.f k a0 a1 = some r) :
    Calls Try.prog 19 #[.int .u64 a0, .int .u64 a1] w fun e w' => e = .returned (.bool r) ∧ Drawn0 w w' := by
  have H : ((heronryref02_Class.f a0).bind fun t140 => (if t140 = 4 then (heronryref02_Less.j0 k a0 a1 true) else ((heronryref02_Class.f a1).bind fun t141 => (if t141 = 4 then (heronryref02_Less.j0 k a0 a1 true) else ((heronryref02_size.f a0).bind fun t142 => (if t142 = 0 then ((heronryref02_size.f a1).bind fun t143 => (heronryref02_Less.j0 k a0 a1 (t143 == 0))) else (heronryref02_Less.j0 k a0 a1 false))))))) = some r := h
  clear h
  have HC3 := Aside0.mk H
  clear H
  go_enter Try.func19, Try.ntmps19
  go_upto_region 1 with (fail)
  go_cut [22] (fun v22 wc => ∃ (kq : Nat) (x22_2 : Bool), v22 = .bool x22_2 ∧ Aside0 (heronryref02_Less.j0 kq a0 a1 x22_2 = some r) ∧ Aside0 (kq ≤ k) ∧ Drawn0 w wc)
  case first =>
    have H := HC3.out
    clear HC3
    replace H := Option.bind_eq_some_iff.mp H
    obtain ⟨t140, A40, H⟩ := H
    replace H : (if t140 = 4 then (heronryref02_Less.j0 k a0 a1 true) else ((heronryref02_Class.f a1).bind fun t141 => (if t141 = 4 then (heronryref02_Less.j0 k a0 a1 true) else ((heronryref02_size.f a0).bind fun t142 => (if t142 = 0 then ((heronryref02_size.f a1).bind fun t143 => (heronryref02_Less.j0 k a0 a1 (t143 == 0))) else (heronryref02_Less.j0 k a0 a1 false)))))) = some r := H
    have A4 := Aside0.mk A40
    clear A40
    by_cases c5 : t140 = 4
    · rw [if_pos c5] at H
      have c5b0 : (t140 == 4) = true := beq_iff_eq.mpr c5
      have c5b1 : (t140 != 4) = false := bne_eq_false_iff_eq.mpr c5
      clear c5
      (first | rw [c5b0] | (simp only [i64_w, i32_w]; rw [c5b0]) | skip)
      have H' := Aside0.mk H
      clear H
      go_wp2_with (first | ((with_reducible refine gate_callee (f := 30) rfl ?_); refine goesL_ (some 6) rfl rfl Try.func30 (by kernel_rfl) rfl #[.int .u64 a0] rfl (by (try simp only [List.map_toArray, List.map_cons, List.map_nil]); first | done | rfl | (simp only [List.length_drop, List.length_take]; rfl)) ?_; (with_reducible refine (heronryref02_Class.calls a0 t140 _ A4.out).mono ?_); rintro e w' ⟨rfl, ⟨nd, rfl⟩⟩; refine ⟨_, rfl, ?_⟩))
      go_meet
      case rel => exact ⟨_, (true), (by first | rfl | (simp; done) | (simp [*]; done)), H', ⟨by first | omega | exact Nat.le_refl _⟩, by repeat (first | exact Drawn0.refl _ | apply Drawn0.step)⟩
    · rw [if_neg c5] at H
      have c5b0 : (t140 == 4) = false := beq_eq_false_iff_ne.mpr c5
      have c5b1 : (t140 != 4) = true := bne_iff_ne.mpr c5
      (first | rw [c5b0] | (simp only [i64_w, i32_w]; rw [c5b0]) | skip)
      replace H := Option.bind_eq_some_iff.mp H
      obtain ⟨t141, A60, H⟩ := H
      replace H : (if t141 = 4 then (heronryref02_Less.j0 k a0 a1 true) else ((heronryref02_size.f a0).bind fun t142 => (if t142 = 0 then ((heronryref02_size.f a1).bind fun t143 => (heronryref02_Less.j0 k a0 a1 (t143 == 0))) else (heronryref02_Less.j0 k a0 a1 false)))) = some r := H
      have A6 := Aside0.mk A60
      clear A60
      by_cases c7 : t141 = 4
      · rw [if_pos c7] at H
        have c7b0 : (t141 == 4) = true := beq_iff_eq.mpr c7
        have c7b1 : (t141 != 4) = false := bne_eq_false_iff_eq.mpr c7
        clear c7
        have H' := Aside0.mk H
        clear H
        go_wp2_with (first | ((with_reducible refine gate_callee (f := 30) rfl ?_); refine goesL_ (some 6) rfl rfl Try.func30 (by kernel_rfl) rfl #[.int .u64 a0] rfl (by (try simp only [List.map_toArray, List.map_cons, List.map_nil]); first | done | rfl | (simp only [List.length_drop, List.length_take]; rfl)) ?_; (with_reducible refine (heronryref02_Class.calls a0 t140 _ A4.out).mono ?_); rintro e w' ⟨rfl, ⟨nd, rfl⟩⟩; refine ⟨_, rfl, ?_⟩) | (go_at_call 30; (with_reducible refine (heronryref02_Class.calls a1 t141 _ A6.out).mono ?_); rintro e w' ⟨rfl, ⟨nd, rfl⟩⟩))
        go_meet
        case rel => exact ⟨_, (true), (by first | rfl | (simp; done) | (simp [*]; done)), H', ⟨by first | omega | exact Nat.le_refl _⟩, by repeat (first | exact Drawn0.refl _ | apply Drawn0.step)⟩
      · rw [if_neg c7] at H
        have c7b0 : (t141 == 4) = false := beq_eq_false_iff_ne.mpr c7
        have c7b1 : (t141 != 4) = true := bne_iff_ne.mpr c7
        replace H := Option.bind_eq_some_iff.mp H
        obtain ⟨t142, A80, H⟩ := H
        replace H : (if t142 = 0 then ((heronryref02_size.f a1).bind fun t143 => (heronryref02_Less.j0 k a0 a1 (t143 == 0))) else (heronryref02_Less.j0 k a0 a1 false)) = some r := H
        have A8 := Aside0.mk A80
        clear A80
        by_cases c9 : t142 = 0
        · rw [if_pos c9] at H
          have c9b0 : (t142 == 0) = true := beq_iff_eq.mpr c9
          have c9b1 : (t142 != 0) = false := bne_eq_false_iff_eq.mpr c9
          clear c9
          replace H := Option.bind_eq_some_iff.mp H
          obtain ⟨t143, A100, H⟩ := H
          replace H : (heronryref02_Less.j0 k a0 a1 (t143 == 0)) = some r := H
          have A10 := Aside0.mk A100
          clear A100
          have H' := Aside0.mk H
          clear H
          go_wp2_with (first | ((with_reducible refine gate_callee (f := 30) rfl ?_); refine goesL_ (some 6) rfl rfl Try.func30 (by kernel_rfl) rfl #[.int .u64 a0] rfl (by (try simp only [List.map_toArray, List.map_cons, List.map_nil]); first | done | rfl | (simp only [List.length_drop, List.length_take]; rfl)) ?_; (with_reducible refine (heronryref02_Class.calls a0 t140 _ A4.out).mono ?_); rintro e w' ⟨rfl, ⟨nd, rfl⟩⟩; refine ⟨_, rfl, ?_⟩) | (go_at_call 30; (with_reducible refine (heronryref02_Class.calls a1 t141 _ A6.out).mono ?_); rintro e w' ⟨rfl, ⟨nd, rfl⟩⟩) | (go_at_call 42; (with_reducible refine (heronryref02_size.calls a0 t142 _ A8.out).mono ?_); rintro e w' ⟨rfl, ⟨nd, rfl⟩⟩) | (go_at_call 42; (with_reducible refine (heronryref02_size.calls a1 t143 _ A10.out).mono ?_); rintro e w' ⟨rfl, ⟨nd, rfl⟩⟩))
          go_meet
          case rel => exact ⟨_, ((t143 == 0)), (by first | rfl | (simp; done) | (simp [*]; done)), H', ⟨by first | omega | exact Nat.le_refl _⟩, by repeat (first | exact Drawn0.refl _ | apply Drawn0.step)⟩
        · rw [if_neg c9] at H
          have c9b0 : (t142 == 0) = false := beq_eq_false_iff_ne.mpr c9
          have c9b1 : (t142 != 0) = true := bne_iff_ne.mpr c9
          have H' := Aside0.mk H
          clear H
          go_wp2_with (first | ((with_reducible refine gate_callee (f := 30) rfl ?_); refine goesL_ (some 6) rfl rfl Try.func30 (by kernel_rfl) rfl #[.int .u64 a0] rfl (by (try simp only [List.map_toArray, List.map_cons, List.map_nil]); first | done | rfl | (simp only [List.length_drop, List.length_take]; rfl)) ?_; (with_reducible refine (heronryref02_Class.calls a0 t140 _ A4.out).mono ?_); rintro e w' ⟨rfl, ⟨nd, rfl⟩⟩; refine ⟨_, rfl, ?_⟩) | (go_at_call 30; (with_reducible refine (heronryref02_Class.calls a1 t141 _ A6.out).mono ?_); rintro e w' ⟨rfl, ⟨nd, rfl⟩⟩) | (go_at_call 42; (with_reducible refine (heronryref02_size.calls a0 t142 _ A8.out).mono ?_); rintro e w' ⟨rfl, ⟨nd, rfl⟩⟩))
          go_meet
          case rel => exact ⟨_, (false), (by first | rfl | (simp; done) | (simp [*]; done)), H', ⟨by first | omega | exact Nat.le_refl _⟩, by repeat (first | exact Drawn0.refl _ | apply Drawn0.step)⟩
  case rest =>
    clear HC3
    try clear c1
    try clear p2
    try clear c3
    try clear c5
    try clear c5b0
    try clear c5b1
    try clear c7
    try clear c7b0
    try clear c7b1
    try clear c9
    try clear c9b0
    try clear c9b1
    obtain ⟨kq, x22_2, rfl, HA, HJ2, ⟨mc2, rfl⟩⟩ := hcut
    cases kq with
    | zero => exact absurd HA.out (by simp [heronryref02_Less.j0])
    | succ kj2 =>
      have H := HA.out
      clear HA
      simp only [heronryref02_Less.j0] at H
      by_cases c11 : x22_2 = true
      · subst c11
        have H1 : (some false) = some r := by rw [if_pos rfl] at H; exact H
        clear H
        have H := H1
        clear H1
        obtain rfl := Option.some.inj H
        go_wp2
        go_ret
        exact ⟨by first | rfl | (simp; done) | (simp [*]; done), by repeat (first | exact Drawn0.refl _ | apply Drawn0.step)⟩
      · replace c11 := Bool.eq_false_iff.mpr c11
        subst c11
        have H1 : ((heronryref02_sign.f a0).bind fun t144 => ((heronryref02_sign.f a1).bind fun t145 => (if t144 = t145 then ((heronryref02_sign.f a0).bind fun t147 => (if t147 = 1 then ((heronryref02_size.f a0).bind fun t148 => ((heronryref02_size.f a1).bind fun t149 => (some (decide (t148 > t149))))) else ((heronryref02_size.f a0).bind fun t150 => ((heronryref02_size.f a1).bind fun t151 => (some (decide (t150 < t151))))))) else ((heronryref02_sign.f a0).bind fun t146 => (some (t146 == 1)))))) = some r := by rw [if_neg (show ¬ (false = true) by decide)] at H; exact H
        clear H
        have H := H1
        clear H1
        replace H := Option.bind_eq_some_iff.mp H
        obtain ⟨t144, A120, H⟩ := H
        replace H : ((heronryref02_sign.f a1).bind fun t145 => (if t144 = t145 then ((heronryref02_sign.f a0).bind fun t147 => (if t147 = 1 then ((heronryref02_size.f a0).bind fun t148 => ((heronryref02_size.f a1).bind fun t149 => (some (decide (t148 > t149))))) else ((heronryref02_size.f a0).bind fun t150 => ((heronryref02_size.f a1).bind fun t151 => (some (decide (t150 < t151))))))) else ((heronryref02_sign.f a0).bind fun t146 => (some (t146 == 1))))) = some r := H
        have A12 := Aside0.mk A120
        clear A120
        replace H := Option.bind_eq_some_iff.mp H
        obtain ⟨t145, A130, H⟩ := H
        replace H : (if t144 = t145 then ((heronryref02_sign.f a0).bind fun t147 => (if t147 = 1 then ((heronryref02_size.f a0).bind fun t148 => ((heronryref02_size.f a1).bind fun t149 => (some (decide (t148 > t149))))) else ((heronryref02_size.f a0).bind fun t150 => ((heronryref02_size.f a1).bind fun t151 => (some (decide (t150 < t151))))))) else ((heronryref02_sign.f a0).bind fun t146 => (some (t146 == 1)))) = some r := H
        have A13 := Aside0.mk A130
        clear A130
        by_cases c14 : t144 = t145
        · rw [if_pos c14] at H
          have c14b0 : (t144 == t145) = true := beq_iff_eq.mpr c14
          have c14b1 : (t144 != t145) = false := bne_eq_false_iff_eq.mpr c14
          clear c14
          replace H := Option.bind_eq_some_iff.mp H
          obtain ⟨t147, A150, H⟩ := H
          replace H : (if t147 = 1 then ((heronryref02_size.f a0).bind fun t148 => ((heronryref02_size.f a1).bind fun t149 => (some (decide (t148 > t149))))) else ((heronryref02_size.f a0).bind fun t150 => ((heronryref02_size.f a1).bind fun t151 => (some (decide (t150 < t151)))))) = some r := H
          have A15 := Aside0.mk A150
          clear A150
          by_cases c16 : t147 = 1
          · rw [if_pos c16] at H
            have c16b0 : (t147 == 1) = true := beq_iff_eq.mpr c16
            have c16b1 : (t147 != 1) = false := bne_eq_false_iff_eq.mpr c16
            clear c16
            replace H := Option.bind_eq_some_iff.mp H
            obtain ⟨t148, A170, H⟩ := H
            replace H : ((heronryref02_size.f a1).bind fun t149 => (some (decide (t148 > t149)))) = some r := H
            have A17 := Aside0.mk A170
            clear A170
            replace H := Option.bind_eq_some_iff.mp H
            obtain ⟨t149, A180, H⟩ := H
            replace H : (some (decide (t148 > t149))) = some r := H
            have A18 := Aside0.mk A180
            clear A180
            obtain rfl := Option.some.inj H
            go_wp2_with (first | ((with_reducible refine gate_callee (f := 43) rfl ?_); refine goesL_ (some 24) rfl rfl Try.func43 (by kernel_rfl) rfl #[.int .u64 a0] rfl (by (try simp only [List.map_toArray, List.map_cons, List.map_nil]); first | done | rfl | (simp only [List.length_drop, List.length_take]; rfl)) ?_; (with_reducible refine (heronryref02_sign.calls a0 t144 _ A12.out).mono ?_); rintro e w' ⟨rfl, ⟨nd, rfl⟩⟩; refine ⟨_, rfl, ?_⟩) | ((with_reducible refine gate_callee (f := 43) rfl ?_); refine goesL_ (some 26) rfl rfl Try.func43 (by kernel_rfl) rfl #[.int .u64 a1] rfl (by (try simp only [List.map_toArray, List.map_cons, List.map_nil]); first | done | rfl | (simp only [List.length_drop, List.length_take]; rfl)) ?_; (with_reducible refine (heronryref02_sign.calls a1 t145 _ A13.out).mono ?_); rintro e w' ⟨rfl, ⟨nd, rfl⟩⟩; refine ⟨_, rfl, ?_⟩) | ((with_reducible refine gate_callee (f := 43) rfl ?_); refine goesL_ (some 32) rfl rfl Try.func43 (by kernel_rfl) rfl #[.int .u64 a0] rfl (by (try simp only [List.map_toArray, List.map_cons, List.map_nil]); first | done | rfl | (simp only [List.length_drop, List.length_take]; rfl)) ?_; (with_reducible refine (heronryref02_sign.calls a0 t147 _ A15.out).mono ?_); rintro e w' ⟨rfl, ⟨nd, rfl⟩⟩; refine ⟨_, rfl, ?_⟩) | ((with_reducible refine gate_callee (f := 42) rfl ?_); refine goesL_ (some 35) rfl rfl Try.func42 (by kernel_rfl) rfl #[.int .u64 a0] rfl (by (try simp only [List.map_toArray, List.map_cons, List.map_nil]); first | done | rfl | (simp only [List.length_drop, List.length_take]; rfl)) ?_; (with_reducible refine (heronryref02_size.calls a0 t148 _ A17.out).mono ?_); rintro e w' ⟨rfl, ⟨nd, rfl⟩⟩; refine ⟨_, rfl, ?_⟩) | ((with_reducible refine gate_callee (f := 42) rfl ?_); refine goesL_ (some 37) rfl rfl Try.func42 (by kernel_rfl) rfl #[.int .u64 a1] rfl (by (try simp only [List.map_toArray, List.map_cons, List.map_nil]); first | done | rfl | (simp only [List.length_drop, List.length_take]; rfl)) ?_; (with_reducible refine (heronryref02_size.calls a1 t149 _ A18.out).mono ?_); rintro e w' ⟨rfl, ⟨nd, rfl⟩⟩; refine ⟨_, rfl, ?_⟩))
            go_ret
            exact ⟨by first | rfl | (simp; done) | (simp [*]; done), by repeat (first | exact Drawn0.refl _ | apply Drawn0.step)⟩
          · rw [if_neg c16] at H
            have c16b0 : (t147 == 1) = false := beq_eq_false_iff_ne.mpr c16
            have c16b1 : (t147 != 1) = true := bne_iff_ne.mpr c16
            replace H := Option.bind_eq_some_iff.mp H
            obtain ⟨t150, A190, H⟩ := H
            replace H : ((heronryref02_size.f a1).bind fun t151 => (some (decide (t150 < t151)))) = some r := H
            have A19 := Aside0.mk A190
            clear A190
            replace H := Option.bind_eq_some_iff.mp H
            obtain ⟨t151, A200, H⟩ := H
            replace H : (some (decide (t150 < t151))) = some r := H
            have A20 := Aside0.mk A200
            clear A200
            obtain rfl := Option.some.inj H
            go_wp2_with (first | ((with_reducible refine gate_callee (f := 43) rfl ?_); refine goesL_ (some 24) rfl rfl Try.func43 (by kernel_rfl) rfl #[.int .u64 a0] rfl (by (try simp only [List.map_toArray, List.map_cons, List.map_nil]); first | done | rfl | (simp only [List.length_drop, List.length_take]; rfl)) ?_; (with_reducible refine (heronryref02_sign.calls a0 t144 _ A12.out).mono ?_); rintro e w' ⟨rfl, ⟨nd, rfl⟩⟩; refine ⟨_, rfl, ?_⟩) | ((with_reducible refine gate_callee (f := 43) rfl ?_); refine goesL_ (some 26) rfl rfl Try.func43 (by kernel_rfl) rfl #[.int .u64 a1] rfl (by (try simp only [List.map_toArray, List.map_cons, List.map_nil]); first | done | rfl | (simp only [List.length_drop, List.length_take]; rfl)) ?_; (with_reducible refine (heronryref02_sign.calls a1 t145 _ A13.out).mono ?_); rintro e w' ⟨rfl, ⟨nd, rfl⟩⟩; refine ⟨_, rfl, ?_⟩) | ((with_reducible refine gate_callee (f := 43) rfl ?_); refine goesL_ (some 32) rfl rfl Try.func43 (by kernel_rfl) rfl #[.int .u64 a0] rfl (by (try simp only [List.map_toArray, List.map_cons, List.map_nil]); first | done | rfl | (simp only [List.length_drop, List.length_take]; rfl)) ?_; (with_reducible refine (heronryref02_sign.calls a0 t147 _ A15.out).mono ?_); rintro e w' ⟨rfl, ⟨nd, rfl⟩⟩; refine ⟨_, rfl, ?_⟩) | ((with_reducible refine gate_callee (f := 42) rfl ?_); refine goesL_ (some 40) rfl rfl Try.func42 (by kernel_rfl) rfl #[.int .u64 a0] rfl (by (try simp only [List.map_toArray, List.map_cons, List.map_nil]); first | done | rfl | (simp only [List.length_drop, List.length_take]; rfl)) ?_; (with_reducible refine (heronryref02_size.calls a0 t150 _ A19.out).mono ?_); rintro e w' ⟨rfl, ⟨nd, rfl⟩⟩; refine ⟨_, rfl, ?_⟩) | ((with_reducible refine gate_callee (f := 42) rfl ?_); refine goesL_ (some 42) rfl rfl Try.func42 (by kernel_rfl) rfl #[.int .u64 a1] rfl (by (try simp only [List.map_toArray, List.map_cons, List.map_nil]); first | done | rfl | (simp only [List.length_drop, List.length_take]; rfl)) ?_; (with_reducible refine (heronryref02_size.calls a1 t151 _ A20.out).mono ?_); rintro e w' ⟨rfl, ⟨nd, rfl⟩⟩; refine ⟨_, rfl, ?_⟩))
            go_ret
            exact ⟨by first | rfl | (simp; done) | (simp [*]; done), by repeat (first | exact Drawn0.refl _ | apply Drawn0.step)⟩
        · rw [if_neg c14] at H
          have c14b0 : (t144 == t145) = false := beq_eq_false_iff_ne.mpr c14
          have c14b1 : (t144 != t145) = true := bne_iff_ne.mpr c14
          replace H := Option.bind_eq_some_iff.mp H
          obtain ⟨t146, A210, H⟩ := H
          replace H : (some (t146 == 1)) = some r := H
          have A21 := Aside0.mk A210
          clear A210
          obtain rfl := Option.some.inj H
          go_wp2_with (first | ((with_reducible refine gate_callee (f := 43) rfl ?_); refine goesL_ (some 24) rfl rfl Try.func43 (by kernel_rfl) rfl #[.int .u64 a0] rfl (by (try simp only [List.map_toArray, List.map_cons, List.map_nil]); first | done | rfl | (simp only [List.length_drop, List.length_take]; rfl)) ?_; (with_reducible refine (heronryref02_sign.calls a0 t144 _ A12.out).mono ?_); rintro e w' ⟨rfl, ⟨nd, rfl⟩⟩; refine ⟨_, rfl, ?_⟩) | ((with_reducible refine gate_callee (f := 43) rfl ?_); refine goesL_ (some 26) rfl rfl Try.func43 (by kernel_rfl) rfl #[.int .u64 a1] rfl (by (try simp only [List.map_toArray, List.map_cons, List.map_nil]); first | done | rfl | (simp only [List.length_drop, List.length_take]; rfl)) ?_; (with_reducible refine (heronryref02_sign.calls a1 t145 _ A13.out).mono ?_); rintro e w' ⟨rfl, ⟨nd, rfl⟩⟩; refine ⟨_, rfl, ?_⟩) | ((with_reducible refine gate_callee (f := 43) rfl ?_); refine goesL_ (some 29) rfl rfl Try.func43 (by kernel_rfl) rfl #[.int .u64 a0] rfl (by (try simp only [List.map_toArray, List.map_cons, List.map_nil]); first | done | rfl | (simp only [List.length_drop, List.length_take]; rfl)) ?_; (with_reducible refine (heronryref02_sign.calls a0 t146 _ A21.out).mono ?_); rintro e w' ⟨rfl, ⟨nd, rfl⟩⟩; refine ⟨_, rfl, ?_⟩))
          go_ret
          exact ⟨by first | rfl | (simp; done) | (simp [*]; done), by repeat (first | exact Drawn0.refl _ | apply Drawn0.step)⟩

/-! ### heronryref02_Equal: function 20 -/
def heronryref02_Equal.f (k : Nat) (a0 : Int) (a1 : Int) : Option (Bool) := (heronryref02_Class.f a0).bind fun t152 => (if t152 = 4 then (some false) else ((heronryref02_Class.f a1).bind fun t153 => (if t153 = 4 then (some false) else ((heronryref02_Less.f k a0 a1).bind fun t154 => (if t154 = true then (some false) else ((heronryref02_Less.f k a1 a0).bind fun t155 => (some (!t155))))))))
theorem heronryref02_Equal.mono : ∀ a0 a1 k, LeO (heronryref02_Equal.f k a0 a1) (heronryref02_Equal.f (k + 1) a0 a1) := by
  intro a0 a1 k
  unfold heronryref02_Equal.f
  repeat' first
      | (with_reducible exact heronryref02_Less.mono _ _ _)
      | (with_reducible exact LeO.refl _)
      | (with_reducible exact LeO.none _)
      | (with_reducible refine LeO.ite ?_ ?_)
      | (with_reducible refine LeO.bind ?_ (fun _ => ?_))
      | exact heronryref02_Less.mono _ _ _
      | exact LeO.none _
      | refine LeO.ite ?_ ?_
      | refine LeO.bind ?_ (fun _ => ?_)
set_option maxHeartbeats 8000000 in
set_option maxRecDepth 100000 in
theorem heronryref02_Equal.calls (k : Nat) (a0 : Int) (a1 : Int) (r : Bool) (w : World) (h : heronryref02_Equal.f k a0 a1 = some r) :
    Calls Try.prog 20 #[.int .u64 a0, .int .u64 a1] w fun e w' => e = .returned (.bool r) ∧ Drawn0 w w' := by
  have H : ((heronryref02_Class.f a0).bind fun t152 => (if t152 = 4 then (some false) else ((heronryref02_Class.f a1).bind fun t153 => (if t153 = 4 then (some false) else ((heronryref02_Less.f k a0 a1).bind fun t154 => (if t154 = true then (some false) else ((heronryref02_Less.f k a1 a0).bind fun t155 => (some (!t155))))))))) = some r := h
  clear h
  replace H := Option.bind_eq_some_iff.mp H
  obtain ⟨t152, A30, H⟩ := H
  replace H : (if t152 = 4 then (some false) else ((heronryref02_Class.f a1).bind fun t153 => (if t153 = 4 then (some false) else ((heronryref02_Less.f k a0 a1).bind fun t154 => (if t154 = true then (some false) else ((heronryref02_Less.f k a1 a0).bind fun t155 => (some (!t155)))))))) = some r := H
  have A3 := Aside0.mk A30
  clear A30
  by_cases c4 : t152 = 4
  · rw [if_pos c4] at H
    have c4b0 : (t152 == 4) = true := beq_iff_eq.mpr c4
    have c4b1 : (t152 != 4) = false := bne_eq_false_iff_eq.mpr c4
    clear c4
    obtain rfl := Option.some.inj H
    go_enter Try.func20, Try.ntmps20
    go_wp2_with (first | ((with_reducible refine gate_callee (f := 30) rfl ?_); refine goesL_ (some 6) rfl rfl Try.func30 (by kernel_rfl) rfl #[.int .u64 a0] rfl (by (try simp only [List.map_toArray, List.map_cons, List.map_nil]); first | done | rfl | (simp only [List.length_drop, List.length_take]; rfl)) ?_; (with_reducible refine (heronryref02_Class.calls a0 t152 _ A3.out).mono ?_); rintro e w' ⟨rfl, ⟨nd, rfl⟩⟩; refine ⟨_, rfl, ?_⟩))
    go_ret
    exact ⟨by first | rfl | (simp; done) | (simp [*]; done), by repeat (first | exact Drawn0.refl _ | apply Drawn0.step)⟩
  · rw [if_neg c4] at H
    have c4b0 : (t152 == 4) = false := beq_eq_false_iff_ne.mpr c4
    have c4b1 : (t152 != 4) = true := bne_iff_ne.mpr c4
    replace H := Option.bind_eq_some_iff.mp H
    obtain ⟨t153, A50, H⟩ := H
    replace H : (if t153 = 4 then (some false) else ((heronryref02_Less.f k a0 a1).bind fun t154 => (if t154 = true then (some false) else ((heronryref02_Less.f k a1 a0).bind fun t155 => (some (!t155)))))) = some r := H
    have A5 := Aside0.mk A50
    clear A50
    by_cases c6 : t153 = 4
    · rw [if_pos c6] at H
      have c6b0 : (t153 == 4) = true := beq_iff_eq.mpr c6
      have c6b1 : (t153 != 4) = false := bne_eq_false_iff_eq.mpr c6
      clear c6
      obtain rfl := Option.some.inj H
      go_enter Try.func20, Try.ntmps20
      go_wp2_with (first | ((with_reducible refine gate_callee (f := 30) rfl ?_); refine goesL_ (some 6) rfl rfl Try.func30 (by kernel_rfl) rfl #[.int .u64 a0] rfl (by (try simp only [List.map_toArray, List.map_cons, List.map_nil]); first | done | rfl | (simp only [List.length_drop, List.length_take]; rfl)) ?_; (with_reducible refine (heronryref02_Class.calls a0 t152 _ A3.out).mono ?_); rintro e w' ⟨rfl, ⟨nd, rfl⟩⟩; refine ⟨_, rfl, ?_⟩) | (go_at_call 30; (with_reducible refine (heronryref02_Class.calls a1 t153 _ A5.out).mono ?_); rintro e w' ⟨rfl, ⟨nd, rfl⟩⟩))
      go_ret
      exact ⟨by first | rfl | (simp; done) | (simp [*]; done), by repeat (first | exact Drawn0.refl _ | apply Drawn0.step)⟩
    · rw [if_neg c6] at H
      have c6b0 : (t153 == 4) = false := beq_eq_false_iff_ne.mpr c6
      have c6b1 : (t153 != 4) = true := bne_iff_ne.mpr c6
      replace H := Option.bind_eq_some_iff.mp H
      obtain ⟨t154, A70, H⟩ := H
      replace H : (if t154 = true then (some false) else ((heronryref02_Less.f k a1 a0).bind fun t155 => (some (!t155)))) = some r := H
      have A7 := Aside0.mk A70
      clear A70
      by_cases c8 : t154 = true
      · subst c8
        have H1 : (some false) = some r := by rw [if_pos rfl] at H; exact H
        clear H
        have H := H1
        clear H1
        obtain rfl := Option.some.inj H
        go_enter Try.func20, Try.ntmps20
        go_wp2_with (first | ((with_reducible refine gate_callee (f := 30) rfl ?_); refine goesL_ (some 6) rfl rfl Try.func30 (by kernel_rfl) rfl #[.int .u64 a0] rfl (by (try simp only [List.map_toArray, List.map_cons, List.map_nil]); first | done | rfl | (simp only [List.length_drop, List.length_take]; rfl)) ?_; (with_reducible refine (heronryref02_Class.calls a0 t152 _ A3.out).mono ?_); rintro e w' ⟨rfl, ⟨nd, rfl⟩⟩; refine ⟨_, rfl, ?_⟩) | (go_at_call 30; (with_reducible refine (heronryref02_Class.calls a1 t153 _ A5.out).mono ?_); rintro e w' ⟨rfl, ⟨nd, rfl⟩⟩) | (go_at_call 19; (with_reducible refine (heronryref02_Less.calls k a0 a1 true _ A7.out).mono ?_); rintro e w' ⟨rfl, ⟨nd, rfl⟩⟩))
        go_ret
        exact ⟨by first | rfl | (simp; done) | (simp [*]; done), by repeat (first | exact Drawn0.refl _ | apply Drawn0.step)⟩
      · replace c8 := Bool.eq_false_iff.mpr c8
        subst c8
        have H1 : ((heronryref02_Less.f k a1 a0).bind fun t155 => (some (!t155))) = some r := by rw [if_neg (show ¬ (false = true) by decide)] at H; exact H
        clear H
        have H := H1
        clear H1
        replace H := Option.bind_eq_some_iff.mp H
        obtain ⟨t155, A90, H⟩ := H
        replace H : (some (!t155)) = some r := H
        have A9 := Aside0.mk A90
        clear A90
        obtain rfl := Option.some.inj H
        go_enter Try.func20, Try.ntmps20
        go_wp2_with (first | ((with_reducible refine gate_callee (f := 30) rfl ?_); refine goesL_ (some 6) rfl rfl Try.func30 (by kernel_rfl) rfl #[.int .u64 a0] rfl (by (try simp only [List.map_toArray, List.map_cons, List.map_nil]); first | done | rfl | (simp only [List.length_drop, List.length_take]; rfl)) ?_; (with_reducible refine (heronryref02_Class.calls a0 t152 _ A3.out).mono ?_); rintro e w' ⟨rfl, ⟨nd, rfl⟩⟩; refine ⟨_, rfl, ?_⟩) | (go_at_call 30; (with_reducible refine (heronryref02_Class.calls a1 t153 _ A5.out).mono ?_); rintro e w' ⟨rfl, ⟨nd, rfl⟩⟩) | (go_at_call 19; (with_reducible refine (heronryref02_Less.calls k a0 a1 false _ A7.out).mono ?_); rintro e w' ⟨rfl, ⟨nd, rfl⟩⟩) | (go_at_call 19; (with_reducible refine (heronryref02_Less.calls k a1 a0 t155 _ A9.out).mono ?_); rintro e w' ⟨rfl, ⟨nd, rfl⟩⟩))
        go_ret
        exact ⟨by first | rfl | (simp; done) | (simp [*]; done), by repeat (first | exact Drawn0.refl _ | apply Drawn0.step)⟩

-- GIVEN: function 21 (float_Min)

/-! ### heronryref02_Key: function 31 -/
def heronryref02_Key.f (a0 : Int) : Option (Int) := (heronryref02_sign.f a0).bind fun t156 => (if t156 = 1 then (some (IntKind.u64.wrap (18446744073709551615 - a0))) else (some (IntKind.u64.wrap (a0 + 9223372036854775808))))
set_option maxHeartbeats 8000000 in
set_option maxRecDepth 100000 in
theorem heronryref02_Key.calls (a0 : Int) (r : Int) (w : World) (h : heronryref02_Key.f a0 = some r) :
    Calls Try.prog 31 #[.int .u64 a0] w fun e w' => e = .returned (.int .u64 r) ∧ Drawn0 w w' := by
  have H : ((heronryref02_sign.f a0).bind fun t156 => (if t156 = 1 then (some (IntKind.u64.wrap (18446744073709551615 - a0))) else (some (IntKind.u64.wrap (a0 + 9223372036854775808))))) = some r := h
  clear h
  replace H := Option.bind_eq_some_iff.mp H
  obtain ⟨t156, A20, H⟩ := H
  replace H : (if t156 = 1 then (some (IntKind.u64.wrap (18446744073709551615 - a0))) else (some (IntKind.u64.wrap (a0 + 9223372036854775808)))) = some r := H
  have A2 := Aside0.mk A20
  clear A20
  by_cases c3 : t156 = 1
  · rw [if_pos c3] at H
    have c3b0 : (t156 == 1) = true := beq_iff_eq.mpr c3
    have c3b1 : (t156 != 1) = false := bne_eq_false_iff_eq.mpr c3
    clear c3
    obtain rfl := Option.some.inj H
    go_enter Try.func31, Try.ntmps31
    go_wp2_with (first | ((with_reducible refine gate_callee (f := 43) rfl ?_); refine goesL_ (some 4) rfl rfl Try.func43 (by kernel_rfl) rfl #[.int .u64 a0] rfl (by (try simp only [List.map_toArray, List.map_cons, List.map_nil]); first | done | rfl | (simp only [List.length_drop, List.length_take]; rfl)) ?_; (with_reducible refine (heronryref02_sign.calls a0 t156 _ A2.out).mono ?_); rintro e w' ⟨rfl, ⟨nd, rfl⟩⟩; refine ⟨_, rfl, ?_⟩))
    go_ret
    exact ⟨by first | rfl | (simp; done) | (simp [*]; done), by repeat (first | exact Drawn0.refl _ | apply Drawn0.step)⟩
  · rw [if_neg c3] at H
    have c3b0 : (t156 == 1) = false := beq_eq_false_iff_ne.mpr c3
    have c3b1 : (t156 != 1) = true := bne_iff_ne.mpr c3
    obtain rfl := Option.some.inj H
    go_enter Try.func31, Try.ntmps31
    go_wp2_with (first | ((with_reducible refine gate_callee (f := 43) rfl ?_); refine goesL_ (some 4) rfl rfl Try.func43 (by kernel_rfl) rfl #[.int .u64 a0] rfl (by (try simp only [List.map_toArray, List.map_cons, List.map_nil]); first | done | rfl | (simp only [List.length_drop, List.length_take]; rfl)) ?_; (with_reducible refine (heronryref02_sign.calls a0 t156 _ A2.out).mono ?_); rintro e w' ⟨rfl, ⟨nd, rfl⟩⟩; refine ⟨_, rfl, ?_⟩))
    go_ret
    exact ⟨by first | rfl | (simp; done) | (simp [*]; done), by repeat (first | exact Drawn0.refl _ | apply Drawn0.step)⟩

/-! ### heronryref02_quiet: function 45 -/
def heronryref02_quiet.f (a0 : Int) : Option (Int) := some (Go.bits .or .u64 a0 2251799813685248)
set_option maxHeartbeats 8000000 in
set_option maxRecDepth 100000 in
theorem heronryref02_quiet.calls (a0 : Int) (r : Int) (w : World) (h : heronryref02_quiet.f a0 = some r) :
    Calls Try.prog 45 #[.int .u64 a0] w fun e w' => e = .returned (.int .u64 r) ∧ Drawn0 w w' := by
  have H : (some (Go.bits .or .u64 a0 2251799813685248)) = some r := h
  clear h
  obtain rfl := Option.some.inj H
  go_enter Try.func45, Try.ntmps45
  go_wp2
  go_ret
  exact ⟨by first | rfl | (simp; done) | (simp [*]; done), by repeat (first | exact Drawn0.refl _ | apply Drawn0.step)⟩

end Go.Proofs.Ytkcoabnghdlboaa.Q
