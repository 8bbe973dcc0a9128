-- Written by hprint.py (the kit's printer, with functions that are given). Lean checks it.
import Derived.Test.YtkcoabnghdlboaaQ0
import Derived.Test.YtkcoabnghdlboaaQ3
import Derived.Test.YtkcoabnghdlboaaQ4
namespace Go.Proofs.Ytkcoabnghdlboaa.Q
open Go.RowKit Go.Proofs.YtkcoabnghdlboaaW.PrintWords Go.Proofs.YtkcoabnghdlboaaW.PrintLast Go.Proofs.YtkcoabnghdlboaaW.PrintMore
attribute [local go_sem] max2_int min2_int max_two min_two max_three min_three max_four min_four   -- for this text's walks alone
set_option linter.unusedVariables false
set_option linter.unusedSimpArgs false

/-! ### heronryref02_Int: function 29 -/
mutual
def heronryref02_Int.j0 : Nat → Int → Int → Bool → Option (Int × Bool)
  | 0, _, _, _ => none
  | k + 1, x0, x4, x22 => if x22 = true then (some (0, false)) else ((heronryref02_fraction.f x0).bind fun t256 => (if x4 < 52 then (if 0 ≤ (IntKind.u64.wrap (wrap64 (52 - x4))) then (if (shl .u64 (shr .u64 (IntKind.u64.wrap (t256 + 4503599627370496)) (IntKind.u64.wrap (wrap64 (52 - x4)))) (IntKind.u64.wrap (wrap64 (52 - x4)))) = (IntKind.u64.wrap (t256 + 4503599627370496)) then (heronryref02_Int.j1 k x0 x4 (shr .u64 (IntKind.u64.wrap (t256 + 4503599627370496)) (IntKind.u64.wrap (wrap64 (52 - x4))))) else (some (0, false))) else (none)) else (if 0 ≤ (IntKind.u64.wrap (wrap64 (x4 - 52))) then (heronryref02_Int.j1 k x0 x4 (shl .u64 (IntKind.u64.wrap (t256 + 4503599627370496)) (IntKind.u64.wrap (wrap64 (x4 - 52))))) else (none))))
def heronryref02_Int.j1 : Nat → Int → Int → Int → Option (Int × Bool)
  | 0, _, _, _ => none
  | k + 1, x0, x4, x5 => if x4 = 63 then ((heronryref02_sign.f x0).bind fun t257 => (if t257 = 1 then (heronryref02_Int.j2 k (x5 == 9223372036854775808)) else (heronryref02_Int.j2 k false))) else ((heronryref02_sign.f x0).bind fun t258 => (if t258 = 1 then (some (wrap64 (-(wrap64 (x5))), true)) else (some (wrap64 (x5), true))))
def heronryref02_Int.j2 : Nat → Bool → Option (Int × Bool)
  | 0, _ => none
  | k + 1, x54 => if x54 = true then (some ((-9223372036854775808), true)) else (some (0, false))
end
def heronryref02_Int.f (k : Nat) (a0 : Int) : Option (Int × Bool) := (heronryref02_size.f a0).bind fun t253 => (if t253 = 0 then (some (0, true)) else ((heronryref02_Class.f a0).bind fun t254 => (if t254 = 2 then ((heronryref02_exponent.f a0).bind fun t255 => (if (wrap64 ((wrap64 (t255)) - 1023)) < 0 then (heronryref02_Int.j0 k a0 (wrap64 ((wrap64 (t255)) - 1023)) true) else (heronryref02_Int.j0 k a0 (wrap64 ((wrap64 (t255)) - 1023)) (decide ((wrap64 ((wrap64 (t255)) - 1023)) > 63))))) else (some (0, false)))))
theorem heronryref02_Int.mono_l : ∀ k, (∀ y0 y1 y2, LeO (heronryref02_Int.j0 k y0 y1 y2) (heronryref02_Int.j0 (k + 1) y0 y1 y2)) ∧ (∀ y0 y1 y2, LeO (heronryref02_Int.j1 k y0 y1 y2) (heronryref02_Int.j1 (k + 1) y0 y1 y2)) ∧ (∀ y0, LeO (heronryref02_Int.j2 k y0) (heronryref02_Int.j2 (k + 1) y0))
  | 0 => ⟨fun _ _ _ r h => by simp [heronryref02_Int.j0] at h, fun _ _ _ r h => by simp [heronryref02_Int.j1] at h, fun _ r h => by simp [heronryref02_Int.j2] at h⟩
  | k + 1 => by
    obtain ⟨ih0, ih1, ih2⟩ := heronryref02_Int.mono_l k
    refine ⟨?_, ?_, ?_⟩
    · intro y0 y1 y2
      unfold heronryref02_Int.j0
      repeat' first
      | (with_reducible exact ih0 _ _ _)
      | (with_reducible exact ih1 _ _ _)
      | (with_reducible exact ih2 _)
      | (with_reducible exact LeO.refl _)
      | (with_reducible exact LeO.none _)
      | (with_reducible refine LeO.ite ?_ ?_)
      | (with_reducible refine LeO.bind ?_ (fun _ => ?_))
      | exact ih0 _ _ _
      | exact ih1 _ _ _
      | exact ih2 _
      | exact LeO.none _
      | refine LeO.ite ?_ ?_
      | refine LeO.bind ?_ (fun _ => ?_)
    · intro y0 y1 y2
      unfold heronryref02_Int.j1
      repeat' first
      | (with_reducible exact ih0 _ _ _)
      | (with_reducible exact ih1 _ _ _)
      | (with_reducible exact ih2 _)
      | (with_reducible exact LeO.refl _)
      | (with_reducible exact LeO.none _)
      | (with_reducible refine LeO.ite ?_ ?_)
      | (with_reducible refine LeO.bind ?_ (fun _ => ?_))
      | exact ih0 _ _ _
      | exact ih1 _ _ _
      | exact ih2 _
      | exact LeO.none _
      | refine LeO.ite ?_ ?_
      | refine LeO.bind ?_ (fun _ => ?_)
    · intro y0
      unfold heronryref02_Int.j2
      repeat' first
      | (with_reducible exact ih0 _ _ _)
      | (with_reducible exact ih1 _ _ _)
      | (with_reducible exact ih2 _)
      | (with_reducible exact LeO.refl _)
      | (with_reducible exact LeO.none _)
      | (with_reducible refine LeO.ite ?_ ?_)
      | (with_reducible refine LeO.bind ?_ (fun _ => ?_))
      | exact ih0 _ _ _
      | exact ih1 _ _ _
      | exact ih2 _
      | exact LeO.none _
      | refine LeO.ite ?_ ?_
      | refine LeO.bind ?_ (fun _ => ?_)
theorem heronryref02_Int.mono : ∀ a0 k, LeO (heronryref02_Int.f k a0) (heronryref02_Int.f (k + 1) a0) := by
  intro a0 k
  obtain ⟨ih0, ih1, ih2⟩ := heronryref02_Int.mono_l k
  unfold heronryref02_Int.f
  repeat' first
      | (with_reducible exact ih0 _ _ _)
      | (with_reducible exact ih1 _ _ _)
      | (with_reducible exact ih2 _)
      | (with_reducible exact LeO.refl _)
      | (with_reducible exact LeO.none _)
      | (with_reducible refine LeO.ite ?_ ?_)
      | (with_reducible refine LeO.bind ?_ (fun _ => ?_))
      | exact ih0 _ _ _
      | exact ih1 _ _ _
      | exact ih2 _
      | exact LeO.none _
      | refine LeO.ite ?_ ?_
      | refine LeO.bind ?_ (fun _ => ?_)
set_option maxHeartbeats 8000000 in
set_option maxRecDepth 100000 in
theorem heronryref02_Int.calls (k : Nat) (a0 : Int) (r1 : Int) (r2 : Bool) (w : World) (h : heronryref02_Int.f k a0 = some (r1, r2)) :
    Calls Try.prog 29 #[.int .u64 a0] w fun e w' => e = .returned (.tuple #[.int .i64 r1, .bool r2]) ∧ Drawn0 w w' := by
  have H : ((heronryref02_size.f a0).bind fun t253 => (if t253 = 0 then (some (0, true)) else ((heronryref02_Class.f a0).bind fun t254 => (if t254 = 2 then ((heronryref02_exponent.f a0).bind fun t255 => (if (wrap64 ((wrap64 (t255)) - 1023)) < 0 then (heronryref02_Int.j0 k a0 (wrap64 ((wrap64 (t255)) - 1023)) true) else (heronryref02_Int.j0 k a0 (wrap64 ((wrap64 (t255)) - 1023)) (decide ((wrap64 ((wrap64 (t255)) - 1023)) > 63))))) else (some (0, false)))))) = some (r1, r2) := h
  clear h
  replace H := Option.bind_eq_some_iff.mp H
  obtain ⟨t253, A20, H⟩ := H
  replace H : (if t253 = 0 then (some (0, true)) else ((heronryref02_Class.f a0).bind fun t254 => (if t254 = 2 then ((heronryref02_exponent.f a0).bind fun t255 => (if (wrap64 ((wrap64 (t255)) - 1023)) < 0 then (heronryref02_Int.j0 k a0 (wrap64 ((wrap64 (t255)) - 1023)) true) else (heronryref02_Int.j0 k a0 (wrap64 ((wrap64 (t255)) - 1023)) (decide ((wrap64 ((wrap64 (t255)) - 1023)) > 63))))) else (some (0, false))))) = some (r1, r2) := H
  have A2 := Aside0.mk A20
  clear A20
  by_cases c3 : t253 = 0
  · rw [if_pos c3] at H
    have c3b0 : (t253 == 0) = true := beq_iff_eq.mpr c3
    have c3b1 : (t253 != 0) = false := bne_eq_false_iff_eq.mpr c3
    clear c3
    simp only [Option.some.injEq, Prod.mk.injEq] at H
    obtain ⟨rfl, rfl⟩ := H
    go_enter Try.func29, Try.ntmps29
    go_wp2_with (first | ((with_reducible refine gate_callee (f := 42) rfl ?_); refine goesL_ (some 8) rfl rfl Try.func42 (by kernel_rfl) rfl #[.int .u64 a0] rfl (by (try simp only [List.map_toArray, List.map_cons, List.map_nil]); first | done | rfl | (simp only [List.length_drop, List.length_take]; rfl)) ?_; (with_reducible refine (heronryref02_size.calls a0 t253 _ A2.out).mono ?_); rintro e w' ⟨rfl, ⟨nd, rfl⟩⟩; refine ⟨_, rfl, ?_⟩))
    go_ret2
    exact ⟨by first | rfl | (simp; done) | (simp [*]; done), by repeat (first | exact Drawn0.refl _ | apply Drawn0.step)⟩
  · rw [if_neg c3] at H
    have c3b0 : (t253 == 0) = false := beq_eq_false_iff_ne.mpr c3
    have c3b1 : (t253 != 0) = true := bne_iff_ne.mpr c3
    replace H := Option.bind_eq_some_iff.mp H
    obtain ⟨t254, A40, H⟩ := H
    replace H : (if t254 = 2 then ((heronryref02_exponent.f a0).bind fun t255 => (if (wrap64 ((wrap64 (t255)) - 1023)) < 0 then (heronryref02_Int.j0 k a0 (wrap64 ((wrap64 (t255)) - 1023)) true) else (heronryref02_Int.j0 k a0 (wrap64 ((wrap64 (t255)) - 1023)) (decide ((wrap64 ((wrap64 (t255)) - 1023)) > 63))))) else (some (0, false))) = some (r1, r2) := H
    have A4 := Aside0.mk A40
    clear A40
    by_cases c5 : t254 = 2
    · rw [if_pos c5] at H
      have c5b0 : (t254 == 2) = true := beq_iff_eq.mpr c5
      have c5b1 : (t254 != 2) = false := bne_eq_false_iff_eq.mpr c5
      clear c5
      replace H := Option.bind_eq_some_iff.mp H
      obtain ⟨t255, A60, H⟩ := H
      replace H : (if (wrap64 ((wrap64 (t255)) - 1023)) < 0 then (heronryref02_Int.j0 k a0 (wrap64 ((wrap64 (t255)) - 1023)) true) else (heronryref02_Int.j0 k a0 (wrap64 ((wrap64 (t255)) - 1023)) (decide ((wrap64 ((wrap64 (t255)) - 1023)) > 63)))) = some (r1, r2) := H
      have A6 := Aside0.mk A60
      clear A60
      have HC7 := Aside0.mk H
      clear H
      go_enter Try.func29, Try.ntmps29
      go_upto_region 6 with (first | ((with_reducible refine gate_callee (f := 42) rfl ?_); refine goesL_ (some 8) rfl rfl Try.func42 (by kernel_rfl) rfl #[.int .u64 a0] rfl (by (try simp only [List.map_toArray, List.map_cons, List.map_nil]); first | done | rfl | (simp only [List.length_drop, List.length_take]; rfl)) ?_; (with_reducible refine (heronryref02_size.calls a0 t253 _ A2.out).mono ?_); rintro e w' ⟨rfl, ⟨nd, rfl⟩⟩; refine ⟨_, rfl, ?_⟩) | ((with_reducible refine gate_callee (f := 30) rfl ?_); refine goesL_ (some 11) rfl rfl Try.func30 (by kernel_rfl) rfl #[.int .u64 a0] rfl (by (try simp only [List.map_toArray, List.map_cons, List.map_nil]); first | done | rfl | (simp only [List.length_drop, List.length_take]; rfl)) ?_; (with_reducible refine (heronryref02_Class.calls a0 t254 _ A4.out).mono ?_); rintro e w' ⟨rfl, ⟨nd, rfl⟩⟩; refine ⟨_, rfl, ?_⟩) | ((with_reducible refine gate_callee (f := 47) rfl ?_); refine goesL_ (some 14) rfl rfl Try.func47 (by kernel_rfl) rfl #[.int .u64 a0] rfl (by (try simp only [List.map_toArray, List.map_cons, List.map_nil]); first | done | rfl | (simp only [List.length_drop, List.length_take]; rfl)) ?_; (with_reducible refine (heronryref02_exponent.calls a0 t255 _ A6.out).mono ?_); rintro e w' ⟨rfl, ⟨nd, rfl⟩⟩; refine ⟨_, rfl, ?_⟩))
      (try simp only [Act.put, List.setIfInBounds_toArray, List.set_cons_zero, List.set_cons_succ])
      go_cut [22] (fun v22 wc => ∃ (kq : Nat) (x22_6 : Bool), v22 = .bool x22_6 ∧ Aside0 (heronryref02_Int.j0 kq a0 (wrap64 ((wrap64 (t255)) - 1023)) x22_6 = some (r1, r2)) ∧ Aside0 (kq ≤ k) ∧ Drawn0 w wc)
      case first =>
        have H := HC7.out
        clear HC7
        by_cases c8 : (wrap64 ((wrap64 (t255)) - 1023)) < 0
        · rw [if_pos c8] at H
          have c8b0 : decide ((wrap64 ((wrap64 (t255)) - 1023)) < 0) = true := decide_eq_true c8
          clear c8
          (first | rw [c8b0] | (simp only [i64_w, i32_w]; rw [c8b0]) | skip)
          have H' := Aside0.mk H
          clear H
          go_wp2
          go_meet
          case rel => exact ⟨_, (true), (by first | rfl | (simp; done) | (simp [*]; done)), H', ⟨by first | omega | exact Nat.le_refl _⟩, by repeat (first | exact Drawn0.refl _ | apply Drawn0.step)⟩
        · rw [if_neg c8] at H
          have c8b0 : decide ((wrap64 ((wrap64 (t255)) - 1023)) < 0) = false := decide_eq_false c8
          clear c8
          (first | rw [c8b0] | (simp only [i64_w, i32_w]; rw [c8b0]) | skip)
          have H' := Aside0.mk H
          clear H
          go_wp2
          go_meet
          case rel => exact ⟨_, (decide ((wrap64 ((wrap64 (t255)) - 1023)) > 63)), (by first | rfl | (simp; done) | (simp [*]; done)), H', ⟨by first | omega | exact Nat.le_refl _⟩, by repeat (first | exact Drawn0.refl _ | apply Drawn0.step)⟩
      case rest =>
        clear HC7
        try clear c2
        try clear p2
        try clear c3
        try clear c3b0
        try clear c3b1
        try clear c4
        try clear c5
        try clear c5b0
        try clear c5b1
        try clear p6
        try clear c8
        try clear c8b0
        obtain ⟨kq, x22_6, rfl, HA, HJ6, ⟨mc6, rfl⟩⟩ := hcut
        cases kq with
        | zero => exact absurd HA.out (by simp [heronryref02_Int.j0])
        | succ kj6 =>
          have H := HA.out
          clear HA
          simp only [heronryref02_Int.j0] at H
          by_cases c9 : x22_6 = true
          · subst c9
            have H1 : (some (0, false)) = some (r1, r2) := by rw [if_pos rfl] at H; exact H
            clear H
            have H := H1
            clear H1
            simp only [Option.some.injEq, Prod.mk.injEq] at H
            obtain ⟨rfl, rfl⟩ := H
            go_wp2
            go_ret2
            exact ⟨by first | rfl | (simp; done) | (simp [*]; done), by repeat (first | exact Drawn0.refl _ | apply Drawn0.step)⟩
          · replace c9 := Bool.eq_false_iff.mpr c9
            subst c9
            have H1 : ((heronryref02_fraction.f a0).bind fun t256 => (if (wrap64 ((wrap64 (t255)) - 1023)) < 52 then (if 0 ≤ (IntKind.u64.wrap (wrap64 (52 - (wrap64 ((wrap64 (t255)) - 1023))))) then (if (shl .u64 (shr .u64 (IntKind.u64.wrap (t256 + 4503599627370496)) (IntKind.u64.wrap (wrap64 (52 - (wrap64 ((wrap64 (t255)) - 1023)))))) (IntKind.u64.wrap (wrap64 (52 - (wrap64 ((wrap64 (t255)) - 1023)))))) = (IntKind.u64.wrap (t256 + 4503599627370496)) then (heronryref02_Int.j1 kj6 a0 (wrap64 ((wrap64 (t255)) - 1023)) (shr .u64 (IntKind.u64.wrap (t256 + 4503599627370496)) (IntKind.u64.wrap (wrap64 (52 - (wrap64 ((wrap64 (t255)) - 1023))))))) else (some (0, false))) else (none)) else (if 0 ≤ (IntKind.u64.wrap (wrap64 ((wrap64 ((wrap64 (t255)) - 1023)) - 52))) then (heronryref02_Int.j1 kj6 a0 (wrap64 ((wrap64 (t255)) - 1023)) (shl .u64 (IntKind.u64.wrap (t256 + 4503599627370496)) (IntKind.u64.wrap (wrap64 ((wrap64 ((wrap64 (t255)) - 1023)) - 52))))) else (none)))) = some (r1, r2) := by rw [if_neg (show ¬ (false = true) by decide)] at H; exact H
            clear H
            have H := H1
            clear H1
            replace H := Option.bind_eq_some_iff.mp H
            obtain ⟨t256, A100, H⟩ := H
            replace H : (if (wrap64 ((wrap64 (t255)) - 1023)) < 52 then (if 0 ≤ (IntKind.u64.wrap (wrap64 (52 - (wrap64 ((wrap64 (t255)) - 1023))))) then (if (shl .u64 (shr .u64 (IntKind.u64.wrap (t256 + 4503599627370496)) (IntKind.u64.wrap (wrap64 (52 - (wrap64 ((wrap64 (t255)) - 1023)))))) (IntKind.u64.wrap (wrap64 (52 - (wrap64 ((wrap64 (t255)) - 1023)))))) = (IntKind.u64.wrap (t256 + 4503599627370496)) then (heronryref02_Int.j1 kj6 a0 (wrap64 ((wrap64 (t255)) - 1023)) (shr .u64 (IntKind.u64.wrap (t256 + 4503599627370496)) (IntKind.u64.wrap (wrap64 (52 - (wrap64 ((wrap64 (t255)) - 1023))))))) else (some (0, false))) else (none)) else (if 0 ≤ (IntKind.u64.wrap (wrap64 ((wrap64 ((wrap64 (t255)) - 1023)) - 52))) then (heronryref02_Int.j1 kj6 a0 (wrap64 ((wrap64 (t255)) - 1023)) (shl .u64 (IntKind.u64.wrap (t256 + 4503599627370496)) (IntKind.u64.wrap (wrap64 ((wrap64 ((wrap64 (t255)) - 1023)) - 52))))) else (none))) = some (r1, r2) := H
            have A10 := Aside0.mk A100
            clear A100
            have HC11 := Aside0.mk H
            clear H
            go_upto_if 27 with (first | ((with_reducible refine gate_callee (f := 48) rfl ?_); refine goesL_ (some 24) rfl rfl Try.func48 (by kernel_rfl) rfl #[.int .u64 a0] rfl (by (try simp only [List.map_toArray, List.map_cons, List.map_nil]); first | done | rfl | (simp only [List.length_drop, List.length_take]; rfl)) ?_; (with_reducible refine (heronryref02_fraction.calls a0 t256 _ A10.out).mono ?_); rintro e w' ⟨rfl, ⟨nd, rfl⟩⟩; refine ⟨_, rfl, ?_⟩))
            (try simp only [Act.put, List.setIfInBounds_toArray, List.set_cons_zero, List.set_cons_succ])
            go_cut [5] (fun v5 wc => ∃ (kq : Nat) (x5_10 : Int), v5 = .int .u64 x5_10 ∧ Aside0 (heronryref02_Int.j1 kq a0 (wrap64 ((wrap64 (t255)) - 1023)) x5_10 = some (r1, r2)) ∧ Aside0 (kq ≤ kj6) ∧ Drawn0 w wc)
            case first =>
              have H := HC11.out
              clear HC11
              by_cases c12 : (wrap64 ((wrap64 (t255)) - 1023)) < 52
              · rw [if_pos c12] at H
                have c12b0 : decide ((wrap64 ((wrap64 (t255)) - 1023)) < 52) = true := decide_eq_true c12
                clear c12
                (first | rw [c12b0] | (simp only [i64_w, i32_w]; rw [c12b0]) | skip)
                obtain ⟨ji13, hji13⟩ : ∃ j_ : Int, (IntKind.u64.wrap (wrap64 (52 - (wrap64 ((wrap64 (t255)) - 1023))))) = j_ := ⟨_, rfl⟩
                replace H : (if 0 ≤ (ji13) then (if (shl .u64 (shr .u64 (IntKind.u64.wrap (t256 + 4503599627370496)) (ji13)) (ji13)) = (IntKind.u64.wrap (t256 + 4503599627370496)) then (heronryref02_Int.j1 kj6 a0 (wrap64 ((wrap64 (t255)) - 1023)) (shr .u64 (IntKind.u64.wrap (t256 + 4503599627370496)) (ji13))) else (some (0, false))) else (none)) = some (r1, r2) := by first | (rw [hji13] at H; exact H) | (simp only [hji13] at H ⊢; exact H)
                by_cases c14 : 0 ≤ (ji13)
                · rw [if_pos c14] at H
                  have c14b0 := eq_true c14
                  have c14b1 : decide (0 ≤ (ji13)) = true := decide_eq_true c14
                  clear c14
                  obtain ⟨ji15, hji15⟩ : ∃ j_ : Int, (shr .u64 (IntKind.u64.wrap (t256 + 4503599627370496)) (ji13)) = j_ := ⟨_, rfl⟩
                  replace H : (if (shl .u64 (ji15) (ji13)) = (IntKind.u64.wrap (t256 + 4503599627370496)) then (heronryref02_Int.j1 kj6 a0 (wrap64 ((wrap64 (t255)) - 1023)) ji15) else (some (0, false))) = some (r1, r2) := by first | (rw [hji15] at H; exact H) | (simp only [hji15] at H ⊢; exact H)
                  have hji15_ : ((IntKind.u64.wrap (t256 + 4503599627370496)) / 2 ^ min (ji13).toNat 64) = ji15 := hji15
                  have hji15z : (ji13) ≤ 64 → ((IntKind.u64.wrap (t256 + 4503599627370496)) / 2 ^ (ji13).toNat) = ji15 := shr_small hji15
                  have c16b0 := eq_true (of_decide_eq_true (by first | (with_reducible assumption) | assumption) : 0 ≤ (ji13))
                  obtain ⟨ji17, hji17⟩ : ∃ j_ : Int, (shl .u64 (ji15) (ji13)) = j_ := ⟨_, rfl⟩
                  replace H : (if (ji17) = (IntKind.u64.wrap (t256 + 4503599627370496)) then (heronryref02_Int.j1 kj6 a0 (wrap64 ((wrap64 (t255)) - 1023)) ji15) else (some (0, false))) = some (r1, r2) := by first | (rw [hji17] at H; exact H) | (simp only [hji17] at H ⊢; exact H)
                  have hji17_ : (IntKind.u64.wrap ((ji15) * 2 ^ min (ji13).toNat 64)) = ji17 := hji17
                  have hji17z : (ji13) ≤ 64 → (IntKind.u64.wrap ((ji15) * 2 ^ (ji13).toNat)) = ji17 := shl_small hji17
                  by_cases c18 : (ji17) = (IntKind.u64.wrap (t256 + 4503599627370496))
                  · rw [if_pos c18] at H
                    have c18b0 : ((ji17) == (IntKind.u64.wrap (t256 + 4503599627370496))) = true := beq_iff_eq.mpr c18
                    have c18b1 : ((ji17) != (IntKind.u64.wrap (t256 + 4503599627370496))) = false := bne_eq_false_iff_eq.mpr c18
                    clear c18
                    have c19b0 := eq_true (of_decide_eq_true (by first | (with_reducible assumption) | assumption) : 0 ≤ (ji13))
                    have H' := Aside0.mk H
                    clear H
                    go_wp2
                    go_meet
                    case rel => exact ⟨_, (ji15), (by first | rfl | (simp; done) | (simp only [← hji15] <;> (first | rfl | simp)) | (simp [*]; done)), (by first | exact H' | (rw [hji15]; exact H') | (simp only [hji15]; exact H')), ⟨by have := HJ6.out; first | omega | exact Nat.le_refl _⟩, by repeat (first | exact Drawn0.refl _ | apply Drawn0.step)⟩
                  · rw [if_neg c18] at H
                    have c18b0 : ((ji17) == (IntKind.u64.wrap (t256 + 4503599627370496))) = false := beq_eq_false_iff_ne.mpr c18
                    have c18b1 : ((ji17) != (IntKind.u64.wrap (t256 + 4503599627370496))) = true := bne_iff_ne.mpr c18
                    simp only [Option.some.injEq, Prod.mk.injEq] at H
                    obtain ⟨rfl, rfl⟩ := H
                    go_wp2
                    go_ret2
                    exact ⟨by first | rfl | (simp; done) | (simp only [← hji13, ← hji15, ← hji17] <;> (first | rfl | simp)) | (simp [*]; done), by repeat (first | exact Drawn0.refl _ | apply Drawn0.step)⟩
                · rw [if_neg c14] at H
                  exact absurd H (by simp)
              · rw [if_neg c12] at H
                have c12b0 : decide ((wrap64 ((wrap64 (t255)) - 1023)) < 52) = false := decide_eq_false c12
                clear c12
                (first | rw [c12b0] | (simp only [i64_w, i32_w]; rw [c12b0]) | skip)
                obtain ⟨ji21, hji21⟩ : ∃ j_ : Int, (IntKind.u64.wrap (wrap64 ((wrap64 ((wrap64 (t255)) - 1023)) - 52))) = j_ := ⟨_, rfl⟩
                replace H : (if 0 ≤ (ji21) then (heronryref02_Int.j1 kj6 a0 (wrap64 ((wrap64 (t255)) - 1023)) (shl .u64 (IntKind.u64.wrap (t256 + 4503599627370496)) (ji21))) else (none)) = some (r1, r2) := by first | (rw [hji21] at H; exact H) | (simp only [hji21] at H ⊢; exact H)
                by_cases c22 : 0 ≤ (ji21)
                · rw [if_pos c22] at H
                  have c22b0 := eq_true c22
                  have c22b1 : decide (0 ≤ (ji21)) = true := decide_eq_true c22
                  clear c22
                  obtain ⟨ji23, hji23⟩ : ∃ j_ : Int, (shl .u64 (IntKind.u64.wrap (t256 + 4503599627370496)) (ji21)) = j_ := ⟨_, rfl⟩
                  replace H : (heronryref02_Int.j1 kj6 a0 (wrap64 ((wrap64 (t255)) - 1023)) ji23) = some (r1, r2) := by first | (rw [hji23] at H; exact H) | (simp only [hji23] at H ⊢; exact H)
                  have hji23_ : (IntKind.u64.wrap ((IntKind.u64.wrap (t256 + 4503599627370496)) * 2 ^ min (ji21).toNat 64)) = ji23 := hji23
                  have hji23z : (ji21) ≤ 64 → (IntKind.u64.wrap ((IntKind.u64.wrap (t256 + 4503599627370496)) * 2 ^ (ji21).toNat)) = ji23 := shl_small hji23
                  have H' := Aside0.mk H
                  clear H
                  go_wp2
                  go_meet
                  case rel => exact ⟨_, (ji23), (by first | rfl | (simp; done) | (simp only [← hji23] <;> (first | rfl | simp)) | (simp [*]; done)), (by first | exact H' | (rw [hji23]; exact H') | (simp only [hji23]; exact H')), ⟨by have := HJ6.out; first | omega | exact Nat.le_refl _⟩, by repeat (first | exact Drawn0.refl _ | apply Drawn0.step)⟩
                · rw [if_neg c22] at H
                  exact absurd H (by simp)
            case rest =>
              clear HC11
              try clear c1
              try clear c2
              try clear p2
              try clear c3
              try clear c3b0
              try clear c3b1
              try clear c4
              try clear c5
              try clear c5b0
              try clear c5b1
              try clear c6
              try clear p6
              try clear c8
              try clear c8b0
              try clear c9
              try clear c12
              try clear c12b0
              try clear c14
              try clear c14b0
              try clear c14b1
              try clear c16
              try clear c16b0
              try clear c18
              try clear c18b0
              try clear c18b1
              try clear c19
              try clear c19b0
              try clear c20
              try clear c20b0
              try clear c22
              try clear c22b0
              try clear c22b1
              try clear p2
              try clear p6
              obtain ⟨kq, x5_10, rfl, HA, HJ10, ⟨mc10, rfl⟩⟩ := hcut
              cases kq with
              | zero => exact absurd HA.out (by simp [heronryref02_Int.j1])
              | succ kj10 =>
                have H := HA.out
                clear HA
                simp only [heronryref02_Int.j1] at H
                by_cases c24 : (wrap64 ((wrap64 (t255)) - 1023)) = 63
                · rw [if_pos c24] at H
                  have c24b0 : ((wrap64 ((wrap64 (t255)) - 1023)) == 63) = true := beq_iff_eq.mpr c24
                  have c24b1 : ((wrap64 ((wrap64 (t255)) - 1023)) != 63) = false := bne_eq_false_iff_eq.mpr c24
                  clear c24
                  have HC25 := Aside0.mk H
                  clear H
                  go_upto_region 16 with (fail)
                  go_cut [54] (fun v54 wc => ∃ (kq : Nat) (x54_24 : Bool), v54 = .bool x54_24 ∧ Aside0 (heronryref02_Int.j2 kq x54_24 = some (r1, r2)) ∧ Aside0 (kq ≤ kj10) ∧ Drawn0 w wc)
                  case first =>
                    have H := HC25.out
                    clear HC25
                    replace H := Option.bind_eq_some_iff.mp H
                    obtain ⟨t257, A260, H⟩ := H
                    replace H : (if t257 = 1 then (heronryref02_Int.j2 kj10 (x5_10 == 9223372036854775808)) else (heronryref02_Int.j2 kj10 false)) = some (r1, r2) := H
                    have A26 := Aside0.mk A260
                    clear A260
                    by_cases c27 : t257 = 1
                    · rw [if_pos c27] at H
                      have c27b0 : (t257 == 1) = true := beq_iff_eq.mpr c27
                      have c27b1 : (t257 != 1) = false := bne_eq_false_iff_eq.mpr c27
                      clear c27
                      (first | rw [c27b0] | (simp only [i64_w, i32_w]; rw [c27b0]) | skip)
                      have H' := Aside0.mk H
                      clear H
                      go_wp2_with (first | ((with_reducible refine gate_callee (f := 43) rfl ?_); refine goesL_ (some 49) rfl rfl Try.func43 (by kernel_rfl) rfl #[.int .u64 a0] rfl (by (try simp only [List.map_toArray, List.map_cons, List.map_nil]); first | done | rfl | (simp only [List.length_drop, List.length_take]; rfl)) ?_; (with_reducible refine (heronryref02_sign.calls a0 t257 _ A26.out).mono ?_); rintro e w' ⟨rfl, ⟨nd, rfl⟩⟩; refine ⟨_, rfl, ?_⟩))
                      go_meet
                      case rel => exact ⟨_, ((x5_10 == 9223372036854775808)), (by first | rfl | (simp; done) | (simp [*]; done)), H', ⟨by have := HJ6.out; have := HJ10.out; first | omega | exact Nat.le_refl _⟩, by repeat (first | exact Drawn0.refl _ | apply Drawn0.step)⟩
                    · rw [if_neg c27] at H
                      have c27b0 : (t257 == 1) = false := beq_eq_false_iff_ne.mpr c27
                      have c27b1 : (t257 != 1) = true := bne_iff_ne.mpr c27
                      (first | rw [c27b0] | (simp only [i64_w, i32_w]; rw [c27b0]) | skip)
                      have H' := Aside0.mk H
                      clear H
                      go_wp2_with (first | ((with_reducible refine gate_callee (f := 43) rfl ?_); refine goesL_ (some 49) rfl rfl Try.func43 (by kernel_rfl) rfl #[.int .u64 a0] rfl (by (try simp only [List.map_toArray, List.map_cons, List.map_nil]); first | done | rfl | (simp only [List.length_drop, List.length_take]; rfl)) ?_; (with_reducible refine (heronryref02_sign.calls a0 t257 _ A26.out).mono ?_); rintro e w' ⟨rfl, ⟨nd, rfl⟩⟩; refine ⟨_, rfl, ?_⟩))
                      go_meet
                      case rel => exact ⟨_, (false), (by first | rfl | (simp; done) | (simp [*]; done)), H', ⟨by have := HJ6.out; have := HJ10.out; first | omega | exact Nat.le_refl _⟩, by repeat (first | exact Drawn0.refl _ | apply Drawn0.step)⟩
                  case rest =>
                    clear HC25
                    try clear c1
                    try clear c2
                    try clear p2
                    try clear c3
                    try clear c3b0
                    try clear c3b1
                    try clear c4
                    try clear c5
                    try clear c5b0
                    try clear c5b1
                    try clear c6
                    try clear p6
                    try clear c8
                    try clear c8b0
                    try clear c9
                    try clear c10
                    try clear c12
                    try clear c12b0
                    try clear c14
                    try clear c14b0
                    try clear c14b1
                    try clear c16
                    try clear c16b0
                    try clear c18
                    try clear c18b0
                    try clear c18b1
                    try clear c19
                    try clear c19b0
                    try clear c20
                    try clear c20b0
                    try clear c22
                    try clear c22b0
                    try clear c22b1
                    try clear c24
                    try clear c24b0
                    try clear c24b1
                    try clear c27
                    try clear c27b0
                    try clear c27b1
                    try clear p2
                    try clear p6
                    obtain ⟨kq, x54_24, rfl, HA, HJ24, ⟨mc24, rfl⟩⟩ := hcut
                    cases kq with
                    | zero => exact absurd HA.out (by simp [heronryref02_Int.j2])
                    | succ kj24 =>
                      have H := HA.out
                      clear HA
                      simp only [heronryref02_Int.j2] at H
                      by_cases c28 : x54_24 = true
                      · subst c28
                        have H1 : (some ((-9223372036854775808), true)) = some (r1, r2) := by rw [if_pos rfl] at H; exact H
                        clear H
                        have H := H1
                        clear H1
                        simp only [Option.some.injEq, Prod.mk.injEq] at H
                        obtain ⟨rfl, rfl⟩ := H
                        go_wp2
                        go_ret2
                        exact ⟨by first | rfl | (simp; done) | (simp [*]; done), by repeat (first | exact Drawn0.refl _ | apply Drawn0.step)⟩
                      · replace c28 := Bool.eq_false_iff.mpr c28
                        subst c28
                        have H1 : (some (0, false)) = some (r1, r2) := by rw [if_neg (show ¬ (false = true) by decide)] at H; exact H
                        clear H
                        have H := H1
                        clear H1
                        simp only [Option.some.injEq, Prod.mk.injEq] at H
                        obtain ⟨rfl, rfl⟩ := H
                        go_wp2
                        go_ret2
                        exact ⟨by first | rfl | (simp; done) | (simp [*]; done), by repeat (first | exact Drawn0.refl _ | apply Drawn0.step)⟩
                · rw [if_neg c24] at H
                  have c24b0 : ((wrap64 ((wrap64 (t255)) - 1023)) == 63) = false := beq_eq_false_iff_ne.mpr c24
                  have c24b1 : ((wrap64 ((wrap64 (t255)) - 1023)) != 63) = true := bne_iff_ne.mpr c24
                  replace H := Option.bind_eq_some_iff.mp H
                  obtain ⟨t258, A290, H⟩ := H
                  replace H : (if t258 = 1 then (some (wrap64 (-(wrap64 (x5_10))), true)) else (some (wrap64 (x5_10), true))) = some (r1, r2) := H
                  have A29 := Aside0.mk A290
                  clear A290
                  by_cases c30 : t258 = 1
                  · rw [if_pos c30] at H
                    have c30b0 : (t258 == 1) = true := beq_iff_eq.mpr c30
                    have c30b1 : (t258 != 1) = false := bne_eq_false_iff_eq.mpr c30
                    clear c30
                    simp only [Option.some.injEq, Prod.mk.injEq] at H
                    obtain ⟨rfl, rfl⟩ := H
                    go_wp2_with (first | ((with_reducible refine gate_callee (f := 43) rfl ?_); refine goesL_ (some 56) rfl rfl Try.func43 (by kernel_rfl) rfl #[.int .u64 a0] rfl (by (try simp only [List.map_toArray, List.map_cons, List.map_nil]); first | done | rfl | (simp only [List.length_drop, List.length_take]; rfl)) ?_; (with_reducible refine (heronryref02_sign.calls a0 t258 _ A29.out).mono ?_); rintro e w' ⟨rfl, ⟨nd, rfl⟩⟩; refine ⟨_, rfl, ?_⟩))
                    go_ret2
                    exact ⟨by first | rfl | (simp; done) | (simp [*]; done), by repeat (first | exact Drawn0.refl _ | apply Drawn0.step)⟩
                  · rw [if_neg c30] at H
                    have c30b0 : (t258 == 1) = false := beq_eq_false_iff_ne.mpr c30
                    have c30b1 : (t258 != 1) = true := bne_iff_ne.mpr c30
                    simp only [Option.some.injEq, Prod.mk.injEq] at H
                    obtain ⟨rfl, rfl⟩ := H
                    go_wp2_with (first | ((with_reducible refine gate_callee (f := 43) rfl ?_); refine goesL_ (some 56) rfl rfl Try.func43 (by kernel_rfl) rfl #[.int .u64 a0] rfl (by (try simp only [List.map_toArray, List.map_cons, List.map_nil]); first | done | rfl | (simp only [List.length_drop, List.length_take]; rfl)) ?_; (with_reducible refine (heronryref02_sign.calls a0 t258 _ A29.out).mono ?_); rintro e w' ⟨rfl, ⟨nd, rfl⟩⟩; refine ⟨_, rfl, ?_⟩))
                    go_ret2
                    exact ⟨by first | rfl | (simp; done) | (simp [*]; done), by repeat (first | exact Drawn0.refl _ | apply Drawn0.step)⟩
    · rw [if_neg c5] at H
      have c5b0 : (t254 == 2) = false := beq_eq_false_iff_ne.mpr c5
      have c5b1 : (t254 != 2) = true := bne_iff_ne.mpr c5
      simp only [Option.some.injEq, Prod.mk.injEq] at H
      obtain ⟨rfl, rfl⟩ := H
      go_enter Try.func29, Try.ntmps29
      go_wp2_with (first | ((with_reducible refine gate_callee (f := 42) rfl ?_); refine goesL_ (some 8) rfl rfl Try.func42 (by kernel_rfl) rfl #[.int .u64 a0] rfl (by (try simp only [List.map_toArray, List.map_cons, List.map_nil]); first | done | rfl | (simp only [List.length_drop, List.length_take]; rfl)) ?_; (with_reducible refine (heronryref02_size.calls a0 t253 _ A2.out).mono ?_); rintro e w' ⟨rfl, ⟨nd, rfl⟩⟩; refine ⟨_, rfl, ?_⟩) | ((with_reducible refine gate_callee (f := 30) rfl ?_); refine goesL_ (some 11) rfl rfl Try.func30 (by kernel_rfl) rfl #[.int .u64 a0] rfl (by (try simp only [List.map_toArray, List.map_cons, List.map_nil]); first | done | rfl | (simp only [List.length_drop, List.length_take]; rfl)) ?_; (with_reducible refine (heronryref02_Class.calls a0 t254 _ A4.out).mono ?_); rintro e w' ⟨rfl, ⟨nd, rfl⟩⟩; refine ⟨_, rfl, ?_⟩))
      go_ret2
      exact ⟨by first | rfl | (simp; done) | (simp [*]; done), by repeat (first | exact Drawn0.refl _ | apply Drawn0.step)⟩

end Go.Proofs.Ytkcoabnghdlboaa.Q
