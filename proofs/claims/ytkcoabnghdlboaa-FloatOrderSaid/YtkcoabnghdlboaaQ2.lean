-- Written by hprint.py (the kit's printer, with functions that are given). Lean checks it.
import Derived.Test.YtkcoabnghdlboaaQ0
import Derived.Test.YtkcoabnghdlboaaQ1
import Derived.Test.YtkcoabnghdlboaaH6
namespace Go.Proofs.Ytkcoabnghdlboaa.Q
open Go.RowKit Go.Proofs.YtkcoabnghdlboaaW.PrintWords Go.Proofs.YtkcoabnghdlboaaW.PrintLast Go.Proofs.YtkcoabnghdlboaaW.PrintMore
attribute [local go_sem] max2_int min2_int max_two min_two max_three min_three max_four min_four   -- for this text's walks alone
set_option linter.unusedVariables false
set_option linter.unusedSimpArgs false

/-! ### heronrylaw02_FloatOrder: function 3 -/
mutual
def heronrylaw02_FloatOrder.j0 : Nat → Int → Int → Bool → Bool → Option (Bool)
  | 0, _, _, _, _ => none
  | k + 1, x0, x1, x5, x30 => if x30 = true then (some false) else ((heronrylaw02_nan.f x0).bind fun t114 => (if t114 = true then (heronrylaw02_FloatOrder.j1 k x0 x1 x5 true) else ((heronrylaw02_nan.f x1).bind fun t115 => (heronrylaw02_FloatOrder.j1 k x0 x1 x5 t115))))
def heronrylaw02_FloatOrder.j1 : Nat → Int → Int → Bool → Bool → Option (Bool)
  | 0, _, _, _, _ => none
  | k + 1, x0, x1, x5, x36 => if x36 = true then (if x5 = true then ((float_Less.f x0 x1).bind fun t116 => (if t116 = true then (some false) else ((float_Equal.f x0 x1).bind fun t117 => (if t117 = true then (some false) else ((float_Less.f x1 x0).bind fun t118 => (some (!t118))))))) else (some false)) else ((float_Class.f x0).bind fun t119 => (if t119 = 0 then ((float_Class.f x1).bind fun t120 => (heronrylaw02_FloatOrder.j2 k x0 x1 x5 (t120 == 0))) else (heronrylaw02_FloatOrder.j2 k x0 x1 x5 false)))
def heronrylaw02_FloatOrder.j2 : Nat → Int → Int → Bool → Bool → Option (Bool)
  | 0, _, _, _, _ => none
  | k + 1, x0, x1, x5, x6 => if x6 = true then (if x5 = true then ((float_Equal.f x0 x1).bind fun t121 => (if t121 = true then ((float_Less.f x0 x1).bind fun t122 => (some (!t122))) else (some false))) else (some false)) else (if x5 = true then ((float_Less.f x0 x1).bind fun t123 => ((float_Key.f x0).bind fun t124 => ((float_Key.f x1).bind fun t125 => (if (t123 == (decide (t124 < t125))) = true then ((float_Equal.f x0 x1).bind fun t126 => (some (t126 == (x0 == x1)))) else (some false))))) else (some false))
end
def heronrylaw02_FloatOrder.f (k : Nat) (a0 : Int) (a1 : Int) : Option (Bool) := (heronrylaw02_awake.f).bind fun t107 => ((float_Key.f a0).bind fun t108 => ((float_FromKey.f t108).bind fun t109 => (if t109 = a0 then ((float_FromKey.f a0).bind fun t110 => ((float_Key.f t110).bind fun t111 => (if t111 = a0 then ((float_Key.f a0).bind fun t112 => ((float_Key.f a1).bind fun t113 => (heronrylaw02_FloatOrder.j0 k a0 a1 t107 ((t112 == t113) != (a0 == a1))))) else (heronrylaw02_FloatOrder.j0 k a0 a1 t107 true)))) else (heronrylaw02_FloatOrder.j0 k a0 a1 t107 true))))
theorem heronrylaw02_FloatOrder.mono_l : ∀ k, (∀ y0 y1 y2 y3, LeO (heronrylaw02_FloatOrder.j0 k y0 y1 y2 y3) (heronrylaw02_FloatOrder.j0 (k + 1) y0 y1 y2 y3)) ∧ (∀ y0 y1 y2 y3, LeO (heronrylaw02_FloatOrder.j1 k y0 y1 y2 y3) (heronrylaw02_FloatOrder.j1 (k + 1) y0 y1 y2 y3)) ∧ (∀ y0 y1 y2 y3, LeO (heronrylaw02_FloatOrder.j2 k y0 y1 y2 y3) (heronrylaw02_FloatOrder.j2 (k + 1) y0 y1 y2 y3))
  | 0 => ⟨fun _ _ _ _ r h => by simp [heronrylaw02_FloatOrder.j0] at h, fun _ _ _ _ r h => by simp [heronrylaw02_FloatOrder.j1] at h, fun _ _ _ _ r h => by simp [heronrylaw02_FloatOrder.j2] at h⟩
  | k + 1 => by
    obtain ⟨ih0, ih1, ih2⟩ := heronrylaw02_FloatOrder.mono_l k
    refine ⟨?_, ?_, ?_⟩
    · intro y0 y1 y2 y3
      unfold heronrylaw02_FloatOrder.j0
      repeat' first
      | (with_reducible exact ih0 _ _ _ _)
      | (with_reducible exact ih1 _ _ _ _)
      | (with_reducible exact ih2 _ _ _ _)
      | (with_reducible exact LeO.refl _)
      | (with_reducible exact LeO.none _)
      | (with_reducible refine LeO.ite ?_ ?_)
      | (with_reducible refine LeO.bind ?_ (fun _ => ?_))
      | exact ih0 _ _ _ _
      | exact ih1 _ _ _ _
      | exact ih2 _ _ _ _
      | exact LeO.none _
      | refine LeO.ite ?_ ?_
      | refine LeO.bind ?_ (fun _ => ?_)
    · intro y0 y1 y2 y3
      unfold heronrylaw02_FloatOrder.j1
      repeat' first
      | (with_reducible exact ih0 _ _ _ _)
      | (with_reducible exact ih1 _ _ _ _)
      | (with_reducible exact ih2 _ _ _ _)
      | (with_reducible exact LeO.refl _)
      | (with_reducible exact LeO.none _)
      | (with_reducible refine LeO.ite ?_ ?_)
      | (with_reducible refine LeO.bind ?_ (fun _ => ?_))
      | exact ih0 _ _ _ _
      | exact ih1 _ _ _ _
      | exact ih2 _ _ _ _
      | exact LeO.none _
      | refine LeO.ite ?_ ?_
      | refine LeO.bind ?_ (fun _ => ?_)
    · intro y0 y1 y2 y3
      unfold heronrylaw02_FloatOrder.j2
      repeat' first
      | (with_reducible exact ih0 _ _ _ _)
      | (with_reducible exact ih1 _ _ _ _)
      | (with_reducible exact ih2 _ _ _ _)
      | (with_reducible exact LeO.refl _)
      | (with_reducible exact LeO.none _)
      | (with_reducible refine LeO.ite ?_ ?_)
      | (with_reducible refine LeO.bind ?_ (fun _ => ?_))
      | exact ih0 _ _ _ _
      | exact ih1 _ _ _ _
      | exact ih2 _ _ _ _
      | exact LeO.none _
      | refine LeO.ite ?_ ?_
      | refine LeO.bind ?_ (fun _ => ?_)
theorem heronrylaw02_FloatOrder.mono : ∀ a0 a1 k, LeO (heronrylaw02_FloatOrder.f k a0 a1) (heronrylaw02_FloatOrder.f (k + 1) a0 a1) := by
  intro a0 a1 k
  obtain ⟨ih0, ih1, ih2⟩ := heronrylaw02_FloatOrder.mono_l k
  unfold heronrylaw02_FloatOrder.f
  repeat' first
      | (with_reducible exact ih0 _ _ _ _)
      | (with_reducible exact ih1 _ _ _ _)
      | (with_reducible exact ih2 _ _ _ _)
      | (with_reducible exact LeO.refl _)
      | (with_reducible exact LeO.none _)
      | (with_reducible refine LeO.ite ?_ ?_)
      | (with_reducible refine LeO.bind ?_ (fun _ => ?_))
      | exact ih0 _ _ _ _
      | exact ih1 _ _ _ _
      | exact ih2 _ _ _ _
      | exact LeO.none _
      | refine LeO.ite ?_ ?_
      | refine LeO.bind ?_ (fun _ => ?_)
set_option maxHeartbeats 8000000 in
set_option maxRecDepth 100000 in
theorem heronrylaw02_FloatOrder.calls (k : Nat) (a0 : Int) (a1 : Int) (r : Bool) (w : World) (hT_ : Aside0 (r = true)) (h : heronrylaw02_FloatOrder.f k a0 a1 = some r) :
    Calls Try.prog 3 #[.int .u64 a0, .int .u64 a1] w fun e w' => e = .returned (.bool r) ∧ Drawn0 w w' := by
  have H : ((heronrylaw02_awake.f).bind fun t107 => ((float_Key.f a0).bind fun t108 => ((float_FromKey.f t108).bind fun t109 => (if t109 = a0 then ((float_FromKey.f a0).bind fun t110 => ((float_Key.f t110).bind fun t111 => (if t111 = a0 then ((float_Key.f a0).bind fun t112 => ((float_Key.f a1).bind fun t113 => (heronrylaw02_FloatOrder.j0 k a0 a1 t107 ((t112 == t113) != (a0 == a1))))) else (heronrylaw02_FloatOrder.j0 k a0 a1 t107 true)))) else (heronrylaw02_FloatOrder.j0 k a0 a1 t107 true))))) = some r := h
  clear h
  replace H := Option.bind_eq_some_iff.mp H
  obtain ⟨t107, A30, H⟩ := H
  replace H : ((float_Key.f a0).bind fun t108 => ((float_FromKey.f t108).bind fun t109 => (if t109 = a0 then ((float_FromKey.f a0).bind fun t110 => ((float_Key.f t110).bind fun t111 => (if t111 = a0 then ((float_Key.f a0).bind fun t112 => ((float_Key.f a1).bind fun t113 => (heronrylaw02_FloatOrder.j0 k a0 a1 t107 ((t112 == t113) != (a0 == a1))))) else (heronrylaw02_FloatOrder.j0 k a0 a1 t107 true)))) else (heronrylaw02_FloatOrder.j0 k a0 a1 t107 true)))) = some r := H
  have A3 := Aside0.mk A30
  clear A30
  have HC4 := Aside0.mk H
  clear H
  go_enter Try.func3, Try.ntmps3
  go_upto_region 2 with (first | ((with_reducible refine gate_callee (f := 11) rfl ?_); refine goesL_ (some 7) rfl rfl Try.func11 (by kernel_rfl) rfl #[] rfl (by (try simp only [List.map_toArray, List.map_cons, List.map_nil]); first | done | rfl | (simp only [List.length_drop, List.length_take]; rfl)) ?_; (with_reducible refine (heronrylaw02_awake.calls  t107 _ A3.out).mono ?_); rintro e w' ⟨rfl, ⟨nd, rfl⟩⟩; refine ⟨_, rfl, ?_⟩))
  (try simp only [Act.put, List.setIfInBounds_toArray, List.set_cons_zero, List.set_cons_succ])
  go_cut [30] (fun v30 wc => ∃ (kq : Nat) (x30_3 : Bool), v30 = .bool x30_3 ∧ Aside0 (heronrylaw02_FloatOrder.j0 kq a0 a1 t107 x30_3 = some r) ∧ Aside0 (kq ≤ k) ∧ Drawn0 w wc)
  case first =>
    have H := HC4.out
    clear HC4
    replace H := Option.bind_eq_some_iff.mp H
    obtain ⟨t108, A50, H⟩ := H
    replace H : ((float_FromKey.f t108).bind fun t109 => (if t109 = a0 then ((float_FromKey.f a0).bind fun t110 => ((float_Key.f t110).bind fun t111 => (if t111 = a0 then ((float_Key.f a0).bind fun t112 => ((float_Key.f a1).bind fun t113 => (heronrylaw02_FloatOrder.j0 k a0 a1 t107 ((t112 == t113) != (a0 == a1))))) else (heronrylaw02_FloatOrder.j0 k a0 a1 t107 true)))) else (heronrylaw02_FloatOrder.j0 k a0 a1 t107 true))) = some r := H
    have A5 := Aside0.mk A50
    clear A50
    replace H := Option.bind_eq_some_iff.mp H
    obtain ⟨t109, A60, H⟩ := H
    replace H : (if t109 = a0 then ((float_FromKey.f a0).bind fun t110 => ((float_Key.f t110).bind fun t111 => (if t111 = a0 then ((float_Key.f a0).bind fun t112 => ((float_Key.f a1).bind fun t113 => (heronrylaw02_FloatOrder.j0 k a0 a1 t107 ((t112 == t113) != (a0 == a1))))) else (heronrylaw02_FloatOrder.j0 k a0 a1 t107 true)))) else (heronrylaw02_FloatOrder.j0 k a0 a1 t107 true)) = some r := H
    have A6 := Aside0.mk A60
    clear A60
    by_cases c7 : t109 = a0
    · rw [if_pos c7] at H
      have c7b0 : (t109 == a0) = true := beq_iff_eq.mpr c7
      have c7b1 : (t109 != a0) = false := bne_eq_false_iff_eq.mpr c7
      clear c7
      (first | rw [c7b0] | (simp only [i64_w, i32_w]; rw [c7b0]) | skip)
      replace H := Option.bind_eq_some_iff.mp H
      obtain ⟨t110, A80, H⟩ := H
      replace H : ((float_Key.f t110).bind fun t111 => (if t111 = a0 then ((float_Key.f a0).bind fun t112 => ((float_Key.f a1).bind fun t113 => (heronrylaw02_FloatOrder.j0 k a0 a1 t107 ((t112 == t113) != (a0 == a1))))) else (heronrylaw02_FloatOrder.j0 k a0 a1 t107 true))) = some r := H
      have A8 := Aside0.mk A80
      clear A80
      replace H := Option.bind_eq_some_iff.mp H
      obtain ⟨t111, A90, H⟩ := H
      replace H : (if t111 = a0 then ((float_Key.f a0).bind fun t112 => ((float_Key.f a1).bind fun t113 => (heronrylaw02_FloatOrder.j0 k a0 a1 t107 ((t112 == t113) != (a0 == a1))))) else (heronrylaw02_FloatOrder.j0 k a0 a1 t107 true)) = some r := H
      have A9 := Aside0.mk A90
      clear A90
      by_cases c10 : t111 = a0
      · rw [if_pos c10] at H
        have c10b0 : (t111 == a0) = true := beq_iff_eq.mpr c10
        have c10b1 : (t111 != a0) = false := bne_eq_false_iff_eq.mpr c10
        clear c10
        replace H := Option.bind_eq_some_iff.mp H
        obtain ⟨t112, A110, H⟩ := H
        replace H : ((float_Key.f a1).bind fun t113 => (heronrylaw02_FloatOrder.j0 k a0 a1 t107 ((t112 == t113) != (a0 == a1)))) = some r := H
        have A11 := Aside0.mk A110
        clear A110
        replace H := Option.bind_eq_some_iff.mp H
        obtain ⟨t113, A120, H⟩ := H
        replace H : (heronrylaw02_FloatOrder.j0 k a0 a1 t107 ((t112 == t113) != (a0 == a1))) = some r := H
        have A12 := Aside0.mk A120
        clear A120
        have H' := Aside0.mk H
        clear H
        go_wp2_with (first | ((with_reducible refine gate_callee (f := 13) rfl ?_); refine goesL_ (some 9) rfl rfl Try.func13 (by kernel_rfl) rfl #[.int .u64 a0] rfl (by (try simp only [List.map_toArray, List.map_cons, List.map_nil]); first | done | rfl | (simp only [List.length_drop, List.length_take]; rfl)) ?_; (with_reducible refine (float_Key.calls a0 t108 _ A5.out).mono ?_); rintro e w' ⟨rfl, ⟨nd, rfl⟩⟩; refine ⟨_, rfl, ?_⟩) | ((with_reducible refine gate_callee (f := 12) rfl ?_); refine goesL_ (some 10) rfl rfl Try.func12 (by kernel_rfl) rfl #[.int .u64 t108] rfl (by (try simp only [List.map_toArray, List.map_cons, List.map_nil]); first | done | rfl | (simp only [List.length_drop, List.length_take]; rfl)) ?_; (with_reducible refine (float_FromKey.calls t108 t109 _ A6.out).mono ?_); rintro e w' ⟨rfl, ⟨nd, rfl⟩⟩; refine ⟨_, rfl, ?_⟩) | (go_at_call 12; (with_reducible refine (float_FromKey.calls a0 t110 _ A8.out).mono ?_); rintro e w' ⟨rfl, ⟨nd, rfl⟩⟩) | (go_at_call 13; (with_reducible refine (float_Key.calls t110 t111 _ A9.out).mono ?_); rintro e w' ⟨rfl, ⟨nd, rfl⟩⟩) | (go_at_call 13; (with_reducible refine (float_Key.calls a0 t112 _ A11.out).mono ?_); rintro e w' ⟨rfl, ⟨nd, rfl⟩⟩) | (go_at_call 13; (with_reducible refine (float_Key.calls a1 t113 _ A12.out).mono ?_); rintro e w' ⟨rfl, ⟨nd, rfl⟩⟩))
        go_meet
        case rel => exact ⟨_, (((t112 == t113) != (a0 == a1))), (by first | rfl | (simp; done) | (simp [*]; done)), H', ⟨by first | omega | exact Nat.le_refl _⟩, by repeat (first | exact Drawn0.refl _ | apply Drawn0.step)⟩
      · rw [if_neg c10] at H
        have c10b0 : (t111 == a0) = false := beq_eq_false_iff_ne.mpr c10
        have c10b1 : (t111 != a0) = true := bne_iff_ne.mpr c10
        have H' := Aside0.mk H
        clear H
        go_wp2_with (first | ((with_reducible refine gate_callee (f := 13) rfl ?_); refine goesL_ (some 9) rfl rfl Try.func13 (by kernel_rfl) rfl #[.int .u64 a0] rfl (by (try simp only [List.map_toArray, List.map_cons, List.map_nil]); first | done | rfl | (simp only [List.length_drop, List.length_take]; rfl)) ?_; (with_reducible refine (float_Key.calls a0 t108 _ A5.out).mono ?_); rintro e w' ⟨rfl, ⟨nd, rfl⟩⟩; refine ⟨_, rfl, ?_⟩) | ((with_reducible refine gate_callee (f := 12) rfl ?_); refine goesL_ (some 10) rfl rfl Try.func12 (by kernel_rfl) rfl #[.int .u64 t108] rfl (by (try simp only [List.map_toArray, List.map_cons, List.map_nil]); first | done | rfl | (simp only [List.length_drop, List.length_take]; rfl)) ?_; (with_reducible refine (float_FromKey.calls t108 t109 _ A6.out).mono ?_); rintro e w' ⟨rfl, ⟨nd, rfl⟩⟩; refine ⟨_, rfl, ?_⟩) | (go_at_call 12; (with_reducible refine (float_FromKey.calls a0 t110 _ A8.out).mono ?_); rintro e w' ⟨rfl, ⟨nd, rfl⟩⟩) | (go_at_call 13; (with_reducible refine (float_Key.calls t110 t111 _ A9.out).mono ?_); rintro e w' ⟨rfl, ⟨nd, rfl⟩⟩))
        go_meet
        case rel => exact ⟨_, (true), (by first | rfl | (simp; done) | (simp [*]; done)), H', ⟨by first | omega | exact Nat.le_refl _⟩, by repeat (first | exact Drawn0.refl _ | apply Drawn0.step)⟩
    · rw [if_neg c7] at H
      have c7b0 : (t109 == a0) = false := beq_eq_false_iff_ne.mpr c7
      have c7b1 : (t109 != a0) = true := bne_iff_ne.mpr c7
      (first | rw [c7b0] | (simp only [i64_w, i32_w]; rw [c7b0]) | skip)
      have H' := Aside0.mk H
      clear H
      go_wp2_with (first | ((with_reducible refine gate_callee (f := 13) rfl ?_); refine goesL_ (some 9) rfl rfl Try.func13 (by kernel_rfl) rfl #[.int .u64 a0] rfl (by (try simp only [List.map_toArray, List.map_cons, List.map_nil]); first | done | rfl | (simp only [List.length_drop, List.length_take]; rfl)) ?_; (with_reducible refine (float_Key.calls a0 t108 _ A5.out).mono ?_); rintro e w' ⟨rfl, ⟨nd, rfl⟩⟩; refine ⟨_, rfl, ?_⟩) | ((with_reducible refine gate_callee (f := 12) rfl ?_); refine goesL_ (some 10) rfl rfl Try.func12 (by kernel_rfl) rfl #[.int .u64 t108] rfl (by (try simp only [List.map_toArray, List.map_cons, List.map_nil]); first | done | rfl | (simp only [List.length_drop, List.length_take]; rfl)) ?_; (with_reducible refine (float_FromKey.calls t108 t109 _ A6.out).mono ?_); rintro e w' ⟨rfl, ⟨nd, rfl⟩⟩; refine ⟨_, rfl, ?_⟩))
      go_meet
      case rel => exact ⟨_, (true), (by first | rfl | (simp; done) | (simp [*]; done)), H', ⟨by first | omega | exact Nat.le_refl _⟩, by repeat (first | exact Drawn0.refl _ | apply Drawn0.step)⟩
  case rest =>
    clear HC4
    try clear c1
    try clear p2
    try clear c3
    try clear c7
    try clear c7b0
    try clear c7b1
    try clear c10
    try clear c10b0
    try clear c10b1
    try clear c11
    try clear c12
    obtain ⟨kq, x30_3, rfl, HA, HJ3, ⟨mc3, rfl⟩⟩ := hcut
    cases kq with
    | zero => exact absurd HA.out (by simp [heronrylaw02_FloatOrder.j0])
    | succ kj3 =>
      have H := HA.out
      clear HA
      simp only [heronrylaw02_FloatOrder.j0] at H
      by_cases c13 : x30_3 = true
      · subst c13
        have H1 : (some false) = some r := by rw [if_pos rfl] at H; exact H
        clear H
        have H := H1
        clear H1
        obtain rfl := Option.some.inj H
        exact absurd hT_.out (by decide)
      · replace c13 := Bool.eq_false_iff.mpr c13
        subst c13
        have H1 : ((heronrylaw02_nan.f a0).bind fun t114 => (if t114 = true then (heronrylaw02_FloatOrder.j1 kj3 a0 a1 t107 true) else ((heronrylaw02_nan.f a1).bind fun t115 => (heronrylaw02_FloatOrder.j1 kj3 a0 a1 t107 t115)))) = some r := by rw [if_neg (show ¬ (false = true) by decide)] at H; exact H
        clear H
        have H := H1
        clear H1
        have HC14 := Aside0.mk H
        clear H
        go_upto_region 4 with (fail)
        go_cut [36] (fun v36 wc => ∃ (kq : Nat) (x36_13 : Bool), v36 = .bool x36_13 ∧ Aside0 (heronrylaw02_FloatOrder.j1 kq a0 a1 t107 x36_13 = some r) ∧ Aside0 (kq ≤ kj3) ∧ Drawn0 w wc)
        case first =>
          have H := HC14.out
          clear HC14
          replace H := Option.bind_eq_some_iff.mp H
          obtain ⟨t114, A150, H⟩ := H
          replace H : (if t114 = true then (heronrylaw02_FloatOrder.j1 kj3 a0 a1 t107 true) else ((heronrylaw02_nan.f a1).bind fun t115 => (heronrylaw02_FloatOrder.j1 kj3 a0 a1 t107 t115))) = some r := H
          have A15 := Aside0.mk A150
          clear A150
          by_cases c16 : t114 = true
          · subst c16
            have H1 : (heronrylaw02_FloatOrder.j1 kj3 a0 a1 t107 true) = some r := by rw [if_pos rfl] at H; exact H
            clear H
            have H := H1
            clear H1
            have H' := Aside0.mk H
            clear H
            go_wp2_with (first | ((with_reducible refine gate_callee (f := 14) rfl ?_); refine goesL_ (some 32) rfl rfl Try.func14 (by kernel_rfl) rfl #[.int .u64 a0] rfl (by (try simp only [List.map_toArray, List.map_cons, List.map_nil]); first | done | rfl | (simp only [List.length_drop, List.length_take]; rfl)) ?_; (with_reducible refine (heronrylaw02_nan.calls a0 true _ A15.out).mono ?_); rintro e w' ⟨rfl, ⟨nd, rfl⟩⟩; refine ⟨_, rfl, ?_⟩))
            go_meet
            case rel => exact ⟨_, (true), (by first | rfl | (simp; done) | (simp [*]; done)), H', ⟨by have := HJ3.out; first | omega | exact Nat.le_refl _⟩, by repeat (first | exact Drawn0.refl _ | apply Drawn0.step)⟩
          · replace c16 := Bool.eq_false_iff.mpr c16
            subst c16
            have H1 : ((heronrylaw02_nan.f a1).bind fun t115 => (heronrylaw02_FloatOrder.j1 kj3 a0 a1 t107 t115)) = some r := by rw [if_neg (show ¬ (false = true) by decide)] at H; exact H
            clear H
            have H := H1
            clear H1
            replace H := Option.bind_eq_some_iff.mp H
            obtain ⟨t115, A170, H⟩ := H
            replace H : (heronrylaw02_FloatOrder.j1 kj3 a0 a1 t107 t115) = some r := H
            have A17 := Aside0.mk A170
            clear A170
            have H' := Aside0.mk H
            clear H
            go_wp2_with (first | ((with_reducible refine gate_callee (f := 14) rfl ?_); refine goesL_ (some 32) rfl rfl Try.func14 (by kernel_rfl) rfl #[.int .u64 a0] rfl (by (try simp only [List.map_toArray, List.map_cons, List.map_nil]); first | done | rfl | (simp only [List.length_drop, List.length_take]; rfl)) ?_; (with_reducible refine (heronrylaw02_nan.calls a0 false _ A15.out).mono ?_); rintro e w' ⟨rfl, ⟨nd, rfl⟩⟩; refine ⟨_, rfl, ?_⟩) | (go_at_call 14; (with_reducible refine (heronrylaw02_nan.calls a1 t115 _ A17.out).mono ?_); rintro e w' ⟨rfl, ⟨nd, rfl⟩⟩))
            go_meet
            case rel => exact ⟨_, (t115), (by first | rfl | (simp; done) | (simp [*]; done)), H', ⟨by have := HJ3.out; first | omega | exact Nat.le_refl _⟩, by repeat (first | exact Drawn0.refl _ | apply Drawn0.step)⟩
        case rest =>
          clear HC14
          try clear c1
          try clear p2
          try clear c3
          try clear c7
          try clear c7b0
          try clear c7b1
          try clear c10
          try clear c10b0
          try clear c10b1
          try clear c11
          try clear c12
          try clear c13
          try clear c14
          try clear c16
          try clear p2
          obtain ⟨kq, x36_13, rfl, HA, HJ13, ⟨mc13, rfl⟩⟩ := hcut
          cases kq with
          | zero => exact absurd HA.out (by simp [heronrylaw02_FloatOrder.j1])
          | succ kj13 =>
            have H := HA.out
            clear HA
            simp only [heronrylaw02_FloatOrder.j1] at H
            by_cases c18 : x36_13 = true
            · subst c18
              have H1 : (if t107 = true then ((float_Less.f a0 a1).bind fun t116 => (if t116 = true then (some false) else ((float_Equal.f a0 a1).bind fun t117 => (if t117 = true then (some false) else ((float_Less.f a1 a0).bind fun t118 => (some (!t118))))))) else (some false)) = some r := by rw [if_pos rfl] at H; exact H
              clear H
              have H := H1
              clear H1
              by_cases c19 : t107 = true
              · subst c19
                have H1 : ((float_Less.f a0 a1).bind fun t116 => (if t116 = true then (some false) else ((float_Equal.f a0 a1).bind fun t117 => (if t117 = true then (some false) else ((float_Less.f a1 a0).bind fun t118 => (some (!t118))))))) = some r := by rw [if_pos rfl] at H; exact H
                clear H
                have H := H1
                clear H1
                replace H := Option.bind_eq_some_iff.mp H
                obtain ⟨t116, A200, H⟩ := H
                replace H : (if t116 = true then (some false) else ((float_Equal.f a0 a1).bind fun t117 => (if t117 = true then (some false) else ((float_Less.f a1 a0).bind fun t118 => (some (!t118)))))) = some r := H
                have A20 := Aside0.mk A200
                clear A200
                by_cases c21 : t116 = true
                · subst c21
                  have H1 : (some false) = some r := by rw [if_pos rfl] at H; exact H
                  clear H
                  have H := H1
                  clear H1
                  obtain rfl := Option.some.inj H
                  exact absurd hT_.out (by decide)
                · replace c21 := Bool.eq_false_iff.mpr c21
                  subst c21
                  have H1 : ((float_Equal.f a0 a1).bind fun t117 => (if t117 = true then (some false) else ((float_Less.f a1 a0).bind fun t118 => (some (!t118))))) = some r := by rw [if_neg (show ¬ (false = true) by decide)] at H; exact H
                  clear H
                  have H := H1
                  clear H1
                  replace H := Option.bind_eq_some_iff.mp H
                  obtain ⟨t117, A220, H⟩ := H
                  replace H : (if t117 = true then (some false) else ((float_Less.f a1 a0).bind fun t118 => (some (!t118)))) = some r := H
                  have A22 := Aside0.mk A220
                  clear A220
                  by_cases c23 : t117 = true
                  · subst c23
                    have H1 : (some false) = some r := by rw [if_pos rfl] at H; exact H
                    clear H
                    have H := H1
                    clear H1
                    obtain rfl := Option.some.inj H
                    exact absurd hT_.out (by decide)
                  · replace c23 := Bool.eq_false_iff.mpr c23
                    subst c23
                    have H1 : ((float_Less.f a1 a0).bind fun t118 => (some (!t118))) = some r := by rw [if_neg (show ¬ (false = true) by decide)] at H; exact H
                    clear H
                    have H := H1
                    clear H1
                    replace H := Option.bind_eq_some_iff.mp H
                    obtain ⟨t118, A240, H⟩ := H
                    replace H : (some (!t118)) = some r := H
                    have A24 := Aside0.mk A240
                    clear A240
                    obtain rfl := Option.some.inj H
                    go_wp2_with (first | (go_at_call 15; (with_reducible refine (float_Less.calls a0 a1 false _ A20.out).mono ?_); rintro e w' ⟨rfl, ⟨nd, rfl⟩⟩) | (go_at_call 16; (with_reducible refine (float_Equal.calls a0 a1 false _ A22.out).mono ?_); rintro e w' ⟨rfl, ⟨nd, rfl⟩⟩) | (go_at_call 15; (with_reducible refine (float_Less.calls a1 a0 t118 _ A24.out).mono ?_); rintro e w' ⟨rfl, ⟨nd, rfl⟩⟩))
                    go_ret
                    exact ⟨by first | rfl | (simp; done) | (simp [*]; done), by repeat (first | exact Drawn0.refl _ | apply Drawn0.step)⟩
              · replace c19 := Bool.eq_false_iff.mpr c19
                subst c19
                have H1 : (some false) = some r := by rw [if_neg (show ¬ (false = true) by decide)] at H; exact H
                clear H
                have H := H1
                clear H1
                obtain rfl := Option.some.inj H
                exact absurd hT_.out (by decide)
            · replace c18 := Bool.eq_false_iff.mpr c18
              subst c18
              have H1 : ((float_Class.f a0).bind fun t119 => (if t119 = 0 then ((float_Class.f a1).bind fun t120 => (heronrylaw02_FloatOrder.j2 kj13 a0 a1 t107 (t120 == 0))) else (heronrylaw02_FloatOrder.j2 kj13 a0 a1 t107 false))) = some r := by rw [if_neg (show ¬ (false = true) by decide)] at H; exact H
              clear H
              have H := H1
              clear H1
              have HC25 := Aside0.mk H
              clear H
              go_upto_region 6 with (fail)
              go_cut [6] (fun v6 wc => ∃ (kq : Nat) (x6_24 : Bool), v6 = .bool x6_24 ∧ Aside0 (heronrylaw02_FloatOrder.j2 kq a0 a1 t107 x6_24 = some r) ∧ Aside0 (kq ≤ kj13) ∧ Drawn0 w wc)
              case first =>
                have H := HC25.out
                clear HC25
                replace H := Option.bind_eq_some_iff.mp H
                obtain ⟨t119, A260, H⟩ := H
                replace H : (if t119 = 0 then ((float_Class.f a1).bind fun t120 => (heronrylaw02_FloatOrder.j2 kj13 a0 a1 t107 (t120 == 0))) else (heronrylaw02_FloatOrder.j2 kj13 a0 a1 t107 false)) = some r := H
                have A26 := Aside0.mk A260
                clear A260
                by_cases c27 : t119 = 0
                · rw [if_pos c27] at H
                  have c27b0 : (t119 == 0) = true := beq_iff_eq.mpr c27
                  have c27b1 : (t119 != 0) = false := bne_eq_false_iff_eq.mpr c27
                  clear c27
                  (first | rw [c27b0] | (simp only [i64_w, i32_w]; rw [c27b0]) | skip)
                  replace H := Option.bind_eq_some_iff.mp H
                  obtain ⟨t120, A280, H⟩ := H
                  replace H : (heronrylaw02_FloatOrder.j2 kj13 a0 a1 t107 (t120 == 0)) = some r := H
                  have A28 := Aside0.mk A280
                  clear A280
                  have H' := Aside0.mk H
                  clear H
                  go_wp2_with (first | ((with_reducible refine gate_callee (f := 17) rfl ?_); refine goesL_ (some 57) rfl rfl Try.func17 (by kernel_rfl) rfl #[.int .u64 a0] rfl (by (try simp only [List.map_toArray, List.map_cons, List.map_nil]); first | done | rfl | (simp only [List.length_drop, List.length_take]; rfl)) ?_; (with_reducible refine (float_Class.calls a0 t119 _ A26.out).mono ?_); rintro e w' ⟨rfl, ⟨nd, rfl⟩⟩; refine ⟨_, rfl, ?_⟩) | (go_at_call 17; (with_reducible refine (float_Class.calls a1 t120 _ A28.out).mono ?_); rintro e w' ⟨rfl, ⟨nd, rfl⟩⟩))
                  go_meet
                  case rel => exact ⟨_, ((t120 == 0)), (by first | rfl | (simp; done) | (simp [*]; done)), H', ⟨by have := HJ3.out; have := HJ13.out; first | omega | exact Nat.le_refl _⟩, by repeat (first | exact Drawn0.refl _ | apply Drawn0.step)⟩
                · rw [if_neg c27] at H
                  have c27b0 : (t119 == 0) = false := beq_eq_false_iff_ne.mpr c27
                  have c27b1 : (t119 != 0) = true := bne_iff_ne.mpr c27
                  (first | rw [c27b0] | (simp only [i64_w, i32_w]; rw [c27b0]) | skip)
                  have H' := Aside0.mk H
                  clear H
                  go_wp2_with (first | ((with_reducible refine gate_callee (f := 17) rfl ?_); refine goesL_ (some 57) rfl rfl Try.func17 (by kernel_rfl) rfl #[.int .u64 a0] rfl (by (try simp only [List.map_toArray, List.map_cons, List.map_nil]); first | done | rfl | (simp only [List.length_drop, List.length_take]; rfl)) ?_; (with_reducible refine (float_Class.calls a0 t119 _ A26.out).mono ?_); rintro e w' ⟨rfl, ⟨nd, rfl⟩⟩; refine ⟨_, rfl, ?_⟩))
                  go_meet
                  case rel => exact ⟨_, (false), (by first | rfl | (simp; done) | (simp [*]; done)), H', ⟨by have := HJ3.out; have := HJ13.out; first | omega | exact Nat.le_refl _⟩, by repeat (first | exact Drawn0.refl _ | apply Drawn0.step)⟩
              case rest =>
                clear HC25
                try clear c1
                try clear c2
                try clear p2
                try clear c3
                try clear c7
                try clear c7b0
                try clear c7b1
                try clear c10
                try clear c10b0
                try clear c10b1
                try clear c11
                try clear c12
                try clear c13
                try clear c14
                try clear c16
                try clear c17
                try clear c18
                try clear c19
                try clear c21
                try clear c23
                try clear c27
                try clear c27b0
                try clear c27b1
                try clear p2
                obtain ⟨kq, x6_24, rfl, HA, HJ24, ⟨mc24, rfl⟩⟩ := hcut
                cases kq with
                | zero => exact absurd HA.out (by simp [heronrylaw02_FloatOrder.j2])
                | succ kj24 =>
                  have H := HA.out
                  clear HA
                  simp only [heronrylaw02_FloatOrder.j2] at H
                  by_cases c29 : x6_24 = true
                  · subst c29
                    have H1 : (if t107 = true then ((float_Equal.f a0 a1).bind fun t121 => (if t121 = true then ((float_Less.f a0 a1).bind fun t122 => (some (!t122))) else (some false))) else (some false)) = some r := by rw [if_pos rfl] at H; exact H
                    clear H
                    have H := H1
                    clear H1
                    by_cases c30 : t107 = true
                    · subst c30
                      have H1 : ((float_Equal.f a0 a1).bind fun t121 => (if t121 = true then ((float_Less.f a0 a1).bind fun t122 => (some (!t122))) else (some false))) = some r := by rw [if_pos rfl] at H; exact H
                      clear H
                      have H := H1
                      clear H1
                      replace H := Option.bind_eq_some_iff.mp H
                      obtain ⟨t121, A310, H⟩ := H
                      replace H : (if t121 = true then ((float_Less.f a0 a1).bind fun t122 => (some (!t122))) else (some false)) = some r := H
                      have A31 := Aside0.mk A310
                      clear A310
                      by_cases c32 : t121 = true
                      · subst c32
                        have H1 : ((float_Less.f a0 a1).bind fun t122 => (some (!t122))) = some r := by rw [if_pos rfl] at H; exact H
                        clear H
                        have H := H1
                        clear H1
                        replace H := Option.bind_eq_some_iff.mp H
                        obtain ⟨t122, A330, H⟩ := H
                        replace H : (some (!t122)) = some r := H
                        have A33 := Aside0.mk A330
                        clear A330
                        obtain rfl := Option.some.inj H
                        go_wp2_with (first | (go_at_call 16; (with_reducible refine (float_Equal.calls a0 a1 true _ A31.out).mono ?_); rintro e w' ⟨rfl, ⟨nd, rfl⟩⟩) | (go_at_call 15; (with_reducible refine (float_Less.calls a0 a1 t122 _ A33.out).mono ?_); rintro e w' ⟨rfl, ⟨nd, rfl⟩⟩))
                        go_ret
                        exact ⟨by first | rfl | (simp; done) | (simp [*]; done), by repeat (first | exact Drawn0.refl _ | apply Drawn0.step)⟩
                      · replace c32 := Bool.eq_false_iff.mpr c32
                        subst c32
                        have H1 : (some false) = some r := by rw [if_neg (show ¬ (false = true) by decide)] at H; exact H
                        clear H
                        have H := H1
                        clear H1
                        obtain rfl := Option.some.inj H
                        exact absurd hT_.out (by decide)
                    · replace c30 := Bool.eq_false_iff.mpr c30
                      subst c30
                      have H1 : (some false) = some r := by rw [if_neg (show ¬ (false = true) by decide)] at H; exact H
                      clear H
                      have H := H1
                      clear H1
                      obtain rfl := Option.some.inj H
                      exact absurd hT_.out (by decide)
                  · replace c29 := Bool.eq_false_iff.mpr c29
                    subst c29
                    have H1 : (if t107 = true then ((float_Less.f a0 a1).bind fun t123 => ((float_Key.f a0).bind fun t124 => ((float_Key.f a1).bind fun t125 => (if (t123 == (decide (t124 < t125))) = true then ((float_Equal.f a0 a1).bind fun t126 => (some (t126 == (a0 == a1)))) else (some false))))) else (some false)) = some r := by rw [if_neg (show ¬ (false = true) by decide)] at H; exact H
                    clear H
                    have H := H1
                    clear H1
                    by_cases c34 : t107 = true
                    · subst c34
                      have H1 : ((float_Less.f a0 a1).bind fun t123 => ((float_Key.f a0).bind fun t124 => ((float_Key.f a1).bind fun t125 => (if (t123 == (decide (t124 < t125))) = true then ((float_Equal.f a0 a1).bind fun t126 => (some (t126 == (a0 == a1)))) else (some false))))) = some r := by rw [if_pos rfl] at H; exact H
                      clear H
                      have H := H1
                      clear H1
                      replace H := Option.bind_eq_some_iff.mp H
                      obtain ⟨t123, A350, H⟩ := H
                      replace H : ((float_Key.f a0).bind fun t124 => ((float_Key.f a1).bind fun t125 => (if (t123 == (decide (t124 < t125))) = true then ((float_Equal.f a0 a1).bind fun t126 => (some (t126 == (a0 == a1)))) else (some false)))) = some r := H
                      have A35 := Aside0.mk A350
                      clear A350
                      replace H := Option.bind_eq_some_iff.mp H
                      obtain ⟨t124, A360, H⟩ := H
                      replace H : ((float_Key.f a1).bind fun t125 => (if (t123 == (decide (t124 < t125))) = true then ((float_Equal.f a0 a1).bind fun t126 => (some (t126 == (a0 == a1)))) else (some false))) = some r := H
                      have A36 := Aside0.mk A360
                      clear A360
                      replace H := Option.bind_eq_some_iff.mp H
                      obtain ⟨t125, A370, H⟩ := H
                      replace H : (if (t123 == (decide (t124 < t125))) = true then ((float_Equal.f a0 a1).bind fun t126 => (some (t126 == (a0 == a1)))) else (some false)) = some r := H
                      have A37 := Aside0.mk A370
                      clear A370
                      by_cases c38 : (t123 == (decide (t124 < t125))) = true
                      · rw [if_pos c38] at H
                        have c38b0 : (t123 == (decide (t124 < t125))) = true := c38
                        (try (have c38b1 : decide (t123 = (decide (t124 < t125))) = true := by simpa using c38))
                        (try (have c38b2 : (t123 == (decide (t124 < t125))) = true := by simpa using c38))
                        clear c38
                        replace H := Option.bind_eq_some_iff.mp H
                        obtain ⟨t126, A390, H⟩ := H
                        replace H : (some (t126 == (a0 == a1))) = some r := H
                        have A39 := Aside0.mk A390
                        clear A390
                        obtain rfl := Option.some.inj H
                        go_wp2_with (first | (go_at_call 15; (with_reducible refine (float_Less.calls a0 a1 t123 _ A35.out).mono ?_); rintro e w' ⟨rfl, ⟨nd, rfl⟩⟩) | (go_at_call 13; (with_reducible refine (float_Key.calls a0 t124 _ A36.out).mono ?_); rintro e w' ⟨rfl, ⟨nd, rfl⟩⟩) | (go_at_call 13; (with_reducible refine (float_Key.calls a1 t125 _ A37.out).mono ?_); rintro e w' ⟨rfl, ⟨nd, rfl⟩⟩) | (go_at_call 16; (with_reducible refine (float_Equal.calls a0 a1 t126 _ A39.out).mono ?_); rintro e w' ⟨rfl, ⟨nd, rfl⟩⟩))
                        go_ret
                        exact ⟨by first | rfl | (simp; done) | (simp [*]; done), by repeat (first | exact Drawn0.refl _ | apply Drawn0.step)⟩
                      · rw [if_neg c38] at H
                        have c38b0 : (t123 == (decide (t124 < t125))) = false := by simpa using c38
                        (try (have c38b1 : decide (t123 = (decide (t124 < t125))) = false := by simpa using c38))
                        (try (have c38b2 : (t123 == (decide (t124 < t125))) = false := by simpa using c38))
                        (try (have c38b3 : ¬ (t123 = (decide (t124 < t125))) := by simpa using c38))
                        clear c38
                        obtain rfl := Option.some.inj H
                        exact absurd hT_.out (by decide)
                    · replace c34 := Bool.eq_false_iff.mpr c34
                      subst c34
                      have H1 : (some false) = some r := by rw [if_neg (show ¬ (false = true) by decide)] at H; exact H
                      clear H
                      have H := H1
                      clear H1
                      obtain rfl := Option.some.inj H
                      exact absurd hT_.out (by decide)

/-- THE ONE PURE STATEMENT of heronrylaw02_FloatOrder: yours. -/
def heronrylaw02_FloatOrder.Pure : Prop := ∀ (a0 : Int) (a1 : Int), (Lit.int .u64 a0).wf = true → (Lit.int .u64 a1).wf = true → ∃ k, heronrylaw02_FloatOrder.f k a0 a1 = some true
theorem heronrylaw02_FloatOrder.walk (P : heronrylaw02_FloatOrder.Pure) (a0 : Int) (a1 : Int) (w : World) (w0 : (Lit.int .u64 a0).wf = true) (w1 : (Lit.int .u64 a1).wf = true) :
    Calls Try.prog 3 #[.int .u64 a0, .int .u64 a1] w fun e w' => e = .returned (.bool true) ∧ Below w.heap.size w w' := by
  obtain ⟨k, h⟩ := P a0 a1 w0 w1
  refine (heronrylaw02_FloatOrder.calls k a0 a1 true w ⟨rfl⟩ h).mono ?_
  rintro e w' ⟨rfl, hd⟩
  exact ⟨rfl, hd.below⟩

end Go.Proofs.Ytkcoabnghdlboaa.Q
