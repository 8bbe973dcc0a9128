-- Written by hprint.py (the kit's printer, with functions that are given). Lean checks it.
import Derived.Test.YtkcoabnghdlboaaQ0
import Derived.Test.YtkcoabnghdlboaaQ1
import Derived.Test.YtkcoabnghdlboaaH6
namespace Go.Proofs.Ytkcoabnghdlboaa.Q
open Go.RowKit Go.Proofs.YtkcoabnghdlboaaW.PrintWords Go.Proofs.YtkcoabnghdlboaaW.PrintLast Go.Proofs.YtkcoabnghdlboaaW.PrintMore
attribute [local go_sem] max2_int min2_int max_two min_two max_three min_three max_four min_four   -- for this text's walks alone
set_option linter.unusedVariables false
set_option linter.unusedSimpArgs false

/-! ### heronrylaw02_FloatMin: function 6 -/
def heronrylaw02_FloatMin.j0 : Nat → Int → Int → Bool → Int → Int → Bool → Option (Bool)
  | 0, _, _, _, _, _, _ => none
  | k + 1, x0, x1, x5, x6, x7, x20 => if x20 = true then (if x5 = true then ((heronrylaw02_nan.f x6).bind fun t183 => (if t183 = true then ((heronrylaw02_nan.f x7).bind fun t184 => (if t184 = true then (some (x6 == x7)) else (some false))) else (some false))) else (some false)) else (if x5 = true then (if x6 = x0 then (if x7 = x1 then ((float_Less.f x7 x6).bind fun t185 => (if t185 = true then (some false) else ((float_Min.f x1 x0).bind fun t186 => (if t186 = x6 then ((float_Max.f x1 x0).bind fun t187 => (if t187 = x7 then ((float_Key.f x6).bind fun t188 => ((float_Key.f x7).bind fun t189 => (if t188 ≤ t189 then ((float_Min.f x0 x0).bind fun t190 => (some (t190 == x0))) else (some false)))) else (some false))) else (some false))))) else (if x6 = x1 then (if x7 = x0 then ((float_Less.f x7 x6).bind fun t191 => (if t191 = true then (some false) else ((float_Min.f x1 x0).bind fun t192 => (if t192 = x6 then ((float_Max.f x1 x0).bind fun t193 => (if t193 = x7 then ((float_Key.f x6).bind fun t194 => ((float_Key.f x7).bind fun t195 => (if t194 ≤ t195 then ((float_Min.f x0 x0).bind fun t196 => (some (t196 == x0))) else (some false)))) else (some false))) else (some false))))) else (some false)) else (some false))) else (if x6 = x1 then (if x7 = x0 then ((float_Less.f x7 x6).bind fun t197 => (if t197 = true then (some false) else ((float_Min.f x1 x0).bind fun t198 => (if t198 = x6 then ((float_Max.f x1 x0).bind fun t199 => (if t199 = x7 then ((float_Key.f x6).bind fun t200 => ((float_Key.f x7).bind fun t201 => (if t200 ≤ t201 then ((float_Min.f x0 x0).bind fun t202 => (some (t202 == x0))) else (some false)))) else (some false))) else (some false))))) else (some false)) else (some false))) else (some false))
def heronrylaw02_FloatMin.f (k : Nat) (a0 : Int) (a1 : Int) : Option (Bool) := (heronrylaw02_awake.f).bind fun t178 => ((float_Min.f a0 a1).bind fun t179 => ((float_Max.f a0 a1).bind fun t180 => ((heronrylaw02_nan.f a0).bind fun t181 => (if t181 = true then (heronrylaw02_FloatMin.j0 k a0 a1 t178 t179 t180 true) else ((heronrylaw02_nan.f a1).bind fun t182 => (heronrylaw02_FloatMin.j0 k a0 a1 t178 t179 t180 t182))))))
theorem heronrylaw02_FloatMin.mono_l : ∀ k, (∀ y0 y1 y2 y3 y4 y5, LeO (heronrylaw02_FloatMin.j0 k y0 y1 y2 y3 y4 y5) (heronrylaw02_FloatMin.j0 (k + 1) y0 y1 y2 y3 y4 y5))
  | 0 => fun _ _ _ _ _ _ r h => by simp [heronrylaw02_FloatMin.j0] at h
  | k + 1 => by
    have ih0 := heronrylaw02_FloatMin.mono_l k
    · intro y0 y1 y2 y3 y4 y5
      unfold heronrylaw02_FloatMin.j0
      repeat' first
      | (with_reducible exact ih0 _ _ _ _ _ _)
      | (with_reducible exact LeO.refl _)
      | (with_reducible exact LeO.none _)
      | (with_reducible refine LeO.ite ?_ ?_)
      | (with_reducible refine LeO.bind ?_ (fun _ => ?_))
      | exact ih0 _ _ _ _ _ _
      | exact LeO.none _
      | refine LeO.ite ?_ ?_
      | refine LeO.bind ?_ (fun _ => ?_)
theorem heronrylaw02_FloatMin.mono : ∀ a0 a1 k, LeO (heronrylaw02_FloatMin.f k a0 a1) (heronrylaw02_FloatMin.f (k + 1) a0 a1) := by
  intro a0 a1 k
  have ih0 := heronrylaw02_FloatMin.mono_l k
  unfold heronrylaw02_FloatMin.f
  repeat' first
      | (with_reducible exact ih0 _ _ _ _ _ _)
      | (with_reducible exact LeO.refl _)
      | (with_reducible exact LeO.none _)
      | (with_reducible refine LeO.ite ?_ ?_)
      | (with_reducible refine LeO.bind ?_ (fun _ => ?_))
      | exact ih0 _ _ _ _ _ _
      | exact LeO.none _
      | refine LeO.ite ?_ ?_
      | refine LeO.bind ?_ (fun _ => ?_)
set_option maxHeartbeats 8000000 in
set_option maxRecDepth 100000 in
theorem heronrylaw02_FloatMin.calls (k : Nat) (a0 : Int) (a1 : Int) (r : Bool) (w : World) (hT_ : Aside0 (r = true)) (h : heronrylaw02_FloatMin.f k a0 a1 = some r) :
    Calls Try.prog 6 #[.int .u64 a0, .int .u64 a1] w fun e w' => e = .returned (.bool r) ∧ Below w.heap.size w w' := by
  have HB := Aside0.mk (Below.refl w.heap.size w)
  have H : ((heronrylaw02_awake.f).bind fun t178 => ((float_Min.f a0 a1).bind fun t179 => ((float_Max.f a0 a1).bind fun t180 => ((heronrylaw02_nan.f a0).bind fun t181 => (if t181 = true then (heronrylaw02_FloatMin.j0 k a0 a1 t178 t179 t180 true) else ((heronrylaw02_nan.f a1).bind fun t182 => (heronrylaw02_FloatMin.j0 k a0 a1 t178 t179 t180 t182))))))) = some r := h
  clear h
  replace H := Option.bind_eq_some_iff.mp H
  obtain ⟨t178, A30, H⟩ := H
  replace H : ((float_Min.f a0 a1).bind fun t179 => ((float_Max.f a0 a1).bind fun t180 => ((heronrylaw02_nan.f a0).bind fun t181 => (if t181 = true then (heronrylaw02_FloatMin.j0 k a0 a1 t178 t179 t180 true) else ((heronrylaw02_nan.f a1).bind fun t182 => (heronrylaw02_FloatMin.j0 k a0 a1 t178 t179 t180 t182)))))) = some r := H
  have A3 := Aside0.mk A30
  clear A30
  replace H := Option.bind_eq_some_iff.mp H
  obtain ⟨t179, A40, H⟩ := H
  replace H : ((float_Max.f a0 a1).bind fun t180 => ((heronrylaw02_nan.f a0).bind fun t181 => (if t181 = true then (heronrylaw02_FloatMin.j0 k a0 a1 t178 t179 t180 true) else ((heronrylaw02_nan.f a1).bind fun t182 => (heronrylaw02_FloatMin.j0 k a0 a1 t178 t179 t180 t182))))) = some r := H
  have A4 := Aside0.mk A40
  clear A40
  replace H := Option.bind_eq_some_iff.mp H
  obtain ⟨t180, A50, H⟩ := H
  replace H : ((heronrylaw02_nan.f a0).bind fun t181 => (if t181 = true then (heronrylaw02_FloatMin.j0 k a0 a1 t178 t179 t180 true) else ((heronrylaw02_nan.f a1).bind fun t182 => (heronrylaw02_FloatMin.j0 k a0 a1 t178 t179 t180 t182)))) = some r := H
  have A5 := Aside0.mk A50
  clear A50
  have HC6 := Aside0.mk H
  clear H
  go_enter Try.func6, Try.ntmps6
  go_upto_region 4 with (first | ((with_reducible refine gate_callee (f := 11) rfl ?_); refine goesL_ (some 8) rfl rfl Try.func11 (by kernel_rfl) rfl #[] rfl (by (try simp only [List.map_toArray, List.map_cons, List.map_nil]); first | done | rfl | (simp only [List.length_drop, List.length_take]; rfl)) ?_; (with_reducible refine (heronrylaw02_awake.calls  t178 _ A3.out).mono ?_); rintro e w' ⟨rfl, ⟨nd, rfl⟩⟩; refine ⟨_, rfl, ?_⟩) | ((with_reducible refine gate_callee (f := 21) rfl ?_); refine goesL_ (some 11) rfl rfl Try.func21 (by kernel_rfl) rfl #[.int .u64 a0, .int .u64 a1] rfl (by (try simp only [List.map_toArray, List.map_cons, List.map_nil]); first | done | rfl | (simp only [List.length_drop, List.length_take]; rfl)) ?_; (with_reducible refine (float_Min.calls a0 a1 t179 _ A4.out).mono ?_); rintro e w7 ⟨rfl, hb⟩; refine ⟨_, rfl, ?_⟩; have n0_ := Aside0.mk (below_step (by repeat (first | (with_reducible first | exact HB.out | apply below_alloc | apply pw_below_drewN | apply below_drew1) | exact HB.out)) hb); clear HB; have HB := n0_; clear n0_; (try clear hb); (try clear hb2); (try clear hk); (try clear hi)) | ((with_reducible refine gate_callee (f := 23) rfl ?_); refine goesL_ (some 14) rfl rfl Try.func23 (by kernel_rfl) rfl #[.int .u64 a0, .int .u64 a1] rfl (by (try simp only [List.map_toArray, List.map_cons, List.map_nil]); first | done | rfl | (simp only [List.length_drop, List.length_take]; rfl)) ?_; (with_reducible refine (float_Max.calls a0 a1 t180 _ A5.out).mono ?_); rintro e w8 ⟨rfl, hb⟩; refine ⟨_, rfl, ?_⟩; have n0_ := Aside0.mk (below_step (by repeat (first | (with_reducible first | exact HB.out | apply below_alloc | apply pw_below_drewN | apply below_drew1) | exact HB.out)) hb); clear HB; have HB := n0_; clear n0_; (try clear hb); (try clear hb2); (try clear hk); (try clear hi)))
  (try simp only [Act.put, List.setIfInBounds_toArray, List.set_cons_zero, List.set_cons_succ])
  go_cut [20] (fun v20 wc => ∃ (kq : Nat) (x20_5 : Bool), v20 = .bool x20_5 ∧ Aside0 (heronrylaw02_FloatMin.j0 kq a0 a1 t178 t179 t180 x20_5 = some r) ∧ Aside0 (kq ≤ k) ∧ Aside0 (Below w.heap.size w wc))
  case first =>
    have H := HC6.out
    clear HC6
    replace H := Option.bind_eq_some_iff.mp H
    obtain ⟨t181, A90, H⟩ := H
    replace H : (if t181 = true then (heronrylaw02_FloatMin.j0 k a0 a1 t178 t179 t180 true) else ((heronrylaw02_nan.f a1).bind fun t182 => (heronrylaw02_FloatMin.j0 k a0 a1 t178 t179 t180 t182))) = some r := H
    have A9 := Aside0.mk A90
    clear A90
    by_cases c10 : t181 = true
    · subst c10
      have H1 : (heronrylaw02_FloatMin.j0 k a0 a1 t178 t179 t180 true) = some r := by rw [if_pos rfl] at H; exact H
      clear H
      have H := H1
      clear H1
      have H' := Aside0.mk H
      clear H
      go_wp2_with (first | ((with_reducible refine gate_callee (f := 14) rfl ?_); refine goesL_ (some 16) rfl rfl Try.func14 (by kernel_rfl) rfl #[.int .u64 a0] rfl (by (try simp only [List.map_toArray, List.map_cons, List.map_nil]); first | done | rfl | (simp only [List.length_drop, List.length_take]; rfl)) ?_; (with_reducible refine (heronrylaw02_nan.calls a0 true _ A9.out).mono ?_); rintro e w' ⟨rfl, ⟨nd, rfl⟩⟩; refine ⟨_, rfl, ?_⟩))
      go_meet
      case rel => exact ⟨_, (true), (by first | rfl | (simp; done) | (simp [*]; done)), H', ⟨by first | omega | exact Nat.le_refl _⟩, ⟨by repeat (first | (with_reducible first | exact HB.out | apply below_alloc | apply pw_below_drewN | apply below_drew1) | exact HB.out)⟩⟩
    · replace c10 := Bool.eq_false_iff.mpr c10
      subst c10
      have H1 : ((heronrylaw02_nan.f a1).bind fun t182 => (heronrylaw02_FloatMin.j0 k a0 a1 t178 t179 t180 t182)) = some r := by rw [if_neg (show ¬ (false = true) by decide)] at H; exact H
      clear H
      have H := H1
      clear H1
      replace H := Option.bind_eq_some_iff.mp H
      obtain ⟨t182, A110, H⟩ := H
      replace H : (heronrylaw02_FloatMin.j0 k a0 a1 t178 t179 t180 t182) = some r := H
      have A11 := Aside0.mk A110
      clear A110
      have H' := Aside0.mk H
      clear H
      go_wp2_with (first | ((with_reducible refine gate_callee (f := 14) rfl ?_); refine goesL_ (some 16) rfl rfl Try.func14 (by kernel_rfl) rfl #[.int .u64 a0] rfl (by (try simp only [List.map_toArray, List.map_cons, List.map_nil]); first | done | rfl | (simp only [List.length_drop, List.length_take]; rfl)) ?_; (with_reducible refine (heronrylaw02_nan.calls a0 false _ A9.out).mono ?_); rintro e w' ⟨rfl, ⟨nd, rfl⟩⟩; refine ⟨_, rfl, ?_⟩) | (go_at_call 14; (with_reducible refine (heronrylaw02_nan.calls a1 t182 _ A11.out).mono ?_); rintro e w' ⟨rfl, ⟨nd, rfl⟩⟩))
      go_meet
      case rel => exact ⟨_, (t182), (by first | rfl | (simp; done) | (simp [*]; done)), H', ⟨by first | omega | exact Nat.le_refl _⟩, ⟨by repeat (first | (with_reducible first | exact HB.out | apply below_alloc | apply pw_below_drewN | apply below_drew1) | exact HB.out)⟩⟩
  case rest =>
    clear HC6
    try clear c1
    try clear c2
    try clear p2
    try clear c6
    try clear c10
    try clear c11
    obtain ⟨kq, x20_5, rfl, HA, HJ5, HB⟩ := hcut
    cases kq with
    | zero => exact absurd HA.out (by simp [heronrylaw02_FloatMin.j0])
    | succ kj5 =>
      have H := HA.out
      clear HA
      simp only [heronrylaw02_FloatMin.j0] at H
      by_cases c12 : x20_5 = true
      · subst c12
        have H1 : (if t178 = true then ((heronrylaw02_nan.f t179).bind fun t183 => (if t183 = true then ((heronrylaw02_nan.f t180).bind fun t184 => (if t184 = true then (some (t179 == t180)) else (some false))) else (some false))) else (some false)) = some r := by rw [if_pos rfl] at H; exact H
        clear H
        have H := H1
        clear H1
        by_cases c13 : t178 = true
        · subst c13
          have H1 : ((heronrylaw02_nan.f t179).bind fun t183 => (if t183 = true then ((heronrylaw02_nan.f t180).bind fun t184 => (if t184 = true then (some (t179 == t180)) else (some false))) else (some false))) = some r := by rw [if_pos rfl] at H; exact H
          clear H
          have H := H1
          clear H1
          replace H := Option.bind_eq_some_iff.mp H
          obtain ⟨t183, A140, H⟩ := H
          replace H : (if t183 = true then ((heronrylaw02_nan.f t180).bind fun t184 => (if t184 = true then (some (t179 == t180)) else (some false))) else (some false)) = some r := H
          have A14 := Aside0.mk A140
          clear A140
          by_cases c15 : t183 = true
          · subst c15
            have H1 : ((heronrylaw02_nan.f t180).bind fun t184 => (if t184 = true then (some (t179 == t180)) else (some false))) = some r := by rw [if_pos rfl] at H; exact H
            clear H
            have H := H1
            clear H1
            replace H := Option.bind_eq_some_iff.mp H
            obtain ⟨t184, A160, H⟩ := H
            replace H : (if t184 = true then (some (t179 == t180)) else (some false)) = some r := H
            have A16 := Aside0.mk A160
            clear A160
            by_cases c17 : t184 = true
            · subst c17
              have H1 : (some (t179 == t180)) = some r := by rw [if_pos rfl] at H; exact H
              clear H
              have H := H1
              clear H1
              obtain rfl := Option.some.inj H
              go_wp2_with (first | (go_at_call 14; (with_reducible refine (heronrylaw02_nan.calls t179 true _ A14.out).mono ?_); rintro e w' ⟨rfl, ⟨nd, rfl⟩⟩) | (go_at_call 14; (with_reducible refine (heronrylaw02_nan.calls t180 true _ A16.out).mono ?_); rintro e w' ⟨rfl, ⟨nd, rfl⟩⟩))
              go_ret
              exact ⟨by first | rfl | (simp [errW_none, errW_some] <;> rfl) | (simp [*, errW_none, errW_some] <;> rfl), by repeat (first | (with_reducible first | exact HB.out | apply below_alloc | apply pw_below_drewN | apply below_drew1) | exact HB.out)⟩
            · replace c17 := Bool.eq_false_iff.mpr c17
              subst c17
              have H1 : (some false) = some r := by rw [if_neg (show ¬ (false = true) by decide)] at H; exact H
              clear H
              have H := H1
              clear H1
              obtain rfl := Option.some.inj H
              exact absurd hT_.out (by decide)
          · replace c15 := Bool.eq_false_iff.mpr c15
            subst c15
            have H1 : (some false) = some r := by rw [if_neg (show ¬ (false = true) by decide)] at H; exact H
            clear H
            have H := H1
            clear H1
            obtain rfl := Option.some.inj H
            exact absurd hT_.out (by decide)
        · replace c13 := Bool.eq_false_iff.mpr c13
          subst c13
          have H1 : (some false) = some r := by rw [if_neg (show ¬ (false = true) by decide)] at H; exact H
          clear H
          have H := H1
          clear H1
          obtain rfl := Option.some.inj H
          exact absurd hT_.out (by decide)
      · replace c12 := Bool.eq_false_iff.mpr c12
        subst c12
        have H1 : (if t178 = true then (if t179 = a0 then (if t180 = a1 then ((float_Less.f t180 t179).bind fun t185 => (if t185 = true then (some false) else ((float_Min.f a1 a0).bind fun t186 => (if t186 = t179 then ((float_Max.f a1 a0).bind fun t187 => (if t187 = t180 then ((float_Key.f t179).bind fun t188 => ((float_Key.f t180).bind fun t189 => (if t188 ≤ t189 then ((float_Min.f a0 a0).bind fun t190 => (some (t190 == a0))) else (some false)))) else (some false))) else (some false))))) else (if t179 = a1 then (if t180 = a0 then ((float_Less.f t180 t179).bind fun t191 => (if t191 = true then (some false) else ((float_Min.f a1 a0).bind fun t192 => (if t192 = t179 then ((float_Max.f a1 a0).bind fun t193 => (if t193 = t180 then ((float_Key.f t179).bind fun t194 => ((float_Key.f t180).bind fun t195 => (if t194 ≤ t195 then ((float_Min.f a0 a0).bind fun t196 => (some (t196 == a0))) else (some false)))) else (some false))) else (some false))))) else (some false)) else (some false))) else (if t179 = a1 then (if t180 = a0 then ((float_Less.f t180 t179).bind fun t197 => (if t197 = true then (some false) else ((float_Min.f a1 a0).bind fun t198 => (if t198 = t179 then ((float_Max.f a1 a0).bind fun t199 => (if t199 = t180 then ((float_Key.f t179).bind fun t200 => ((float_Key.f t180).bind fun t201 => (if t200 ≤ t201 then ((float_Min.f a0 a0).bind fun t202 => (some (t202 == a0))) else (some false)))) else (some false))) else (some false))))) else (some false)) else (some false))) else (some false)) = some r := by rw [if_neg (show ¬ (false = true) by decide)] at H; exact H
        clear H
        have H := H1
        clear H1
        by_cases c18 : t178 = true
        · subst c18
          have H1 : (if t179 = a0 then (if t180 = a1 then ((float_Less.f t180 t179).bind fun t185 => (if t185 = true then (some false) else ((float_Min.f a1 a0).bind fun t186 => (if t186 = t179 then ((float_Max.f a1 a0).bind fun t187 => (if t187 = t180 then ((float_Key.f t179).bind fun t188 => ((float_Key.f t180).bind fun t189 => (if t188 ≤ t189 then ((float_Min.f a0 a0).bind fun t190 => (some (t190 == a0))) else (some false)))) else (some false))) else (some false))))) else (if t179 = a1 then (if t180 = a0 then ((float_Less.f t180 t179).bind fun t191 => (if t191 = true then (some false) else ((float_Min.f a1 a0).bind fun t192 => (if t192 = t179 then ((float_Max.f a1 a0).bind fun t193 => (if t193 = t180 then ((float_Key.f t179).bind fun t194 => ((float_Key.f t180).bind fun t195 => (if t194 ≤ t195 then ((float_Min.f a0 a0).bind fun t196 => (some (t196 == a0))) else (some false)))) else (some false))) else (some false))))) else (some false)) else (some false))) else (if t179 = a1 then (if t180 = a0 then ((float_Less.f t180 t179).bind fun t197 => (if t197 = true then (some false) else ((float_Min.f a1 a0).bind fun t198 => (if t198 = t179 then ((float_Max.f a1 a0).bind fun t199 => (if t199 = t180 then ((float_Key.f t179).bind fun t200 => ((float_Key.f t180).bind fun t201 => (if t200 ≤ t201 then ((float_Min.f a0 a0).bind fun t202 => (some (t202 == a0))) else (some false)))) else (some false))) else (some false))))) else (some false)) else (some false))) = some r := by rw [if_pos rfl] at H; exact H
          clear H
          have H := H1
          clear H1
          by_cases c19 : t179 = a0
          · rw [if_pos c19] at H
            have c19b0 : (t179 == a0) = true := beq_iff_eq.mpr c19
            have c19b1 : (t179 != a0) = false := bne_eq_false_iff_eq.mpr c19
            clear c19
            by_cases c20 : t180 = a1
            · rw [if_pos c20] at H
              have c20b0 : (t180 == a1) = true := beq_iff_eq.mpr c20
              have c20b1 : (t180 != a1) = false := bne_eq_false_iff_eq.mpr c20
              clear c20
              replace H := Option.bind_eq_some_iff.mp H
              obtain ⟨t185, A210, H⟩ := H
              replace H : (if t185 = true then (some false) else ((float_Min.f a1 a0).bind fun t186 => (if t186 = t179 then ((float_Max.f a1 a0).bind fun t187 => (if t187 = t180 then ((float_Key.f t179).bind fun t188 => ((float_Key.f t180).bind fun t189 => (if t188 ≤ t189 then ((float_Min.f a0 a0).bind fun t190 => (some (t190 == a0))) else (some false)))) else (some false))) else (some false)))) = some r := H
              have A21 := Aside0.mk A210
              clear A210
              by_cases c22 : t185 = true
              · subst c22
                have H1 : (some false) = some r := by rw [if_pos rfl] at H; exact H
                clear H
                have H := H1
                clear H1
                obtain rfl := Option.some.inj H
                exact absurd hT_.out (by decide)
              · replace c22 := Bool.eq_false_iff.mpr c22
                subst c22
                have H1 : ((float_Min.f a1 a0).bind fun t186 => (if t186 = t179 then ((float_Max.f a1 a0).bind fun t187 => (if t187 = t180 then ((float_Key.f t179).bind fun t188 => ((float_Key.f t180).bind fun t189 => (if t188 ≤ t189 then ((float_Min.f a0 a0).bind fun t190 => (some (t190 == a0))) else (some false)))) else (some false))) else (some false))) = some r := by rw [if_neg (show ¬ (false = true) by decide)] at H; exact H
                clear H
                have H := H1
                clear H1
                replace H := Option.bind_eq_some_iff.mp H
                obtain ⟨t186, A230, H⟩ := H
                replace H : (if t186 = t179 then ((float_Max.f a1 a0).bind fun t187 => (if t187 = t180 then ((float_Key.f t179).bind fun t188 => ((float_Key.f t180).bind fun t189 => (if t188 ≤ t189 then ((float_Min.f a0 a0).bind fun t190 => (some (t190 == a0))) else (some false)))) else (some false))) else (some false)) = some r := H
                have A23 := Aside0.mk A230
                clear A230
                by_cases c24 : t186 = t179
                · rw [if_pos c24] at H
                  have c24b0 : (t186 == t179) = true := beq_iff_eq.mpr c24
                  have c24b1 : (t186 != t179) = false := bne_eq_false_iff_eq.mpr c24
                  clear c24
                  replace H := Option.bind_eq_some_iff.mp H
                  obtain ⟨t187, A250, H⟩ := H
                  replace H : (if t187 = t180 then ((float_Key.f t179).bind fun t188 => ((float_Key.f t180).bind fun t189 => (if t188 ≤ t189 then ((float_Min.f a0 a0).bind fun t190 => (some (t190 == a0))) else (some false)))) else (some false)) = some r := H
                  have A25 := Aside0.mk A250
                  clear A250
                  by_cases c26 : t187 = t180
                  · rw [if_pos c26] at H
                    have c26b0 : (t187 == t180) = true := beq_iff_eq.mpr c26
                    have c26b1 : (t187 != t180) = false := bne_eq_false_iff_eq.mpr c26
                    clear c26
                    replace H := Option.bind_eq_some_iff.mp H
                    obtain ⟨t188, A270, H⟩ := H
                    replace H : ((float_Key.f t180).bind fun t189 => (if t188 ≤ t189 then ((float_Min.f a0 a0).bind fun t190 => (some (t190 == a0))) else (some false))) = some r := H
                    have A27 := Aside0.mk A270
                    clear A270
                    replace H := Option.bind_eq_some_iff.mp H
                    obtain ⟨t189, A280, H⟩ := H
                    replace H : (if t188 ≤ t189 then ((float_Min.f a0 a0).bind fun t190 => (some (t190 == a0))) else (some false)) = some r := H
                    have A28 := Aside0.mk A280
                    clear A280
                    by_cases c29 : t188 ≤ t189
                    · rw [if_pos c29] at H
                      have c29b0 : decide (t188 ≤ t189) = true := decide_eq_true c29
                      clear c29
                      replace H := Option.bind_eq_some_iff.mp H
                      obtain ⟨t190, A300, H⟩ := H
                      replace H : (some (t190 == a0)) = some r := H
                      have A30 := Aside0.mk A300
                      clear A300
                      obtain rfl := Option.some.inj H
                      go_wp2_with (first | (go_at_call 15; (with_reducible refine (float_Less.calls t180 t179 false _ A21.out).mono ?_); rintro e w' ⟨rfl, ⟨nd, rfl⟩⟩) | (go_at_call 21; (with_reducible refine (float_Min.calls a1 a0 t186 _ A23.out).mono ?_); rintro e w31 ⟨rfl, hb⟩; have n0_ := Aside0.mk (below_step (by repeat (first | (with_reducible first | exact HB.out | apply below_alloc | apply pw_below_drewN | apply below_drew1) | exact HB.out)) hb); clear HB; have HB := n0_; clear n0_; (try clear hb); (try clear hb2); (try clear hk); (try clear hi)) | (go_at_call 23; (with_reducible refine (float_Max.calls a1 a0 t187 _ A25.out).mono ?_); rintro e w32 ⟨rfl, hb⟩; have n0_ := Aside0.mk (below_step (by repeat (first | (with_reducible first | exact HB.out | apply below_alloc | apply pw_below_drewN | apply below_drew1) | exact HB.out)) hb); clear HB; have HB := n0_; clear n0_; (try clear hb); (try clear hb2); (try clear hk); (try clear hi)) | (go_at_call 13; (with_reducible refine (float_Key.calls t179 t188 _ A27.out).mono ?_); rintro e w' ⟨rfl, ⟨nd, rfl⟩⟩) | (go_at_call 13; (with_reducible refine (float_Key.calls t180 t189 _ A28.out).mono ?_); rintro e w' ⟨rfl, ⟨nd, rfl⟩⟩) | (go_at_call 21; (with_reducible refine (float_Min.calls a0 a0 t190 _ A30.out).mono ?_); rintro e w33 ⟨rfl, hb⟩; have n0_ := Aside0.mk (below_step (by repeat (first | (with_reducible first | exact HB.out | apply below_alloc | apply pw_below_drewN | apply below_drew1) | exact HB.out)) hb); clear HB; have HB := n0_; clear n0_; (try clear hb); (try clear hb2); (try clear hk); (try clear hi)))
                      go_ret
                      exact ⟨by first | rfl | (simp [errW_none, errW_some] <;> rfl) | (simp [*, errW_none, errW_some] <;> rfl), by repeat (first | (with_reducible first | exact HB.out | apply below_alloc | apply pw_below_drewN | apply below_drew1) | exact HB.out)⟩
                    · rw [if_neg c29] at H
                      have c29b0 : decide (t188 ≤ t189) = false := decide_eq_false c29
                      clear c29
                      obtain rfl := Option.some.inj H
                      exact absurd hT_.out (by decide)
                  · rw [if_neg c26] at H
                    have c26b0 : (t187 == t180) = false := beq_eq_false_iff_ne.mpr c26
                    have c26b1 : (t187 != t180) = true := bne_iff_ne.mpr c26
                    obtain rfl := Option.some.inj H
                    exact absurd hT_.out (by decide)
                · rw [if_neg c24] at H
                  have c24b0 : (t186 == t179) = false := beq_eq_false_iff_ne.mpr c24
                  have c24b1 : (t186 != t179) = true := bne_iff_ne.mpr c24
                  obtain rfl := Option.some.inj H
                  exact absurd hT_.out (by decide)
            · rw [if_neg c20] at H
              have c20b0 : (t180 == a1) = false := beq_eq_false_iff_ne.mpr c20
              have c20b1 : (t180 != a1) = true := bne_iff_ne.mpr c20
              by_cases c34 : t179 = a1
              · rw [if_pos c34] at H
                have c34b0 : (t179 == a1) = true := beq_iff_eq.mpr c34
                have c34b1 : (t179 != a1) = false := bne_eq_false_iff_eq.mpr c34
                clear c34
                by_cases c35 : t180 = a0
                · rw [if_pos c35] at H
                  have c35b0 : (t180 == a0) = true := beq_iff_eq.mpr c35
                  have c35b1 : (t180 != a0) = false := bne_eq_false_iff_eq.mpr c35
                  clear c35
                  replace H := Option.bind_eq_some_iff.mp H
                  obtain ⟨t191, A360, H⟩ := H
                  replace H : (if t191 = true then (some false) else ((float_Min.f a1 a0).bind fun t192 => (if t192 = t179 then ((float_Max.f a1 a0).bind fun t193 => (if t193 = t180 then ((float_Key.f t179).bind fun t194 => ((float_Key.f t180).bind fun t195 => (if t194 ≤ t195 then ((float_Min.f a0 a0).bind fun t196 => (some (t196 == a0))) else (some false)))) else (some false))) else (some false)))) = some r := H
                  have A36 := Aside0.mk A360
                  clear A360
                  by_cases c37 : t191 = true
                  · subst c37
                    have H1 : (some false) = some r := by rw [if_pos rfl] at H; exact H
                    clear H
                    have H := H1
                    clear H1
                    obtain rfl := Option.some.inj H
                    exact absurd hT_.out (by decide)
                  · replace c37 := Bool.eq_false_iff.mpr c37
                    subst c37
                    have H1 : ((float_Min.f a1 a0).bind fun t192 => (if t192 = t179 then ((float_Max.f a1 a0).bind fun t193 => (if t193 = t180 then ((float_Key.f t179).bind fun t194 => ((float_Key.f t180).bind fun t195 => (if t194 ≤ t195 then ((float_Min.f a0 a0).bind fun t196 => (some (t196 == a0))) else (some false)))) else (some false))) else (some false))) = some r := by rw [if_neg (show ¬ (false = true) by decide)] at H; exact H
                    clear H
                    have H := H1
                    clear H1
                    replace H := Option.bind_eq_some_iff.mp H
                    obtain ⟨t192, A380, H⟩ := H
                    replace H : (if t192 = t179 then ((float_Max.f a1 a0).bind fun t193 => (if t193 = t180 then ((float_Key.f t179).bind fun t194 => ((float_Key.f t180).bind fun t195 => (if t194 ≤ t195 then ((float_Min.f a0 a0).bind fun t196 => (some (t196 == a0))) else (some false)))) else (some false))) else (some false)) = some r := H
                    have A38 := Aside0.mk A380
                    clear A380
                    by_cases c39 : t192 = t179
                    · rw [if_pos c39] at H
                      have c39b0 : (t192 == t179) = true := beq_iff_eq.mpr c39
                      have c39b1 : (t192 != t179) = false := bne_eq_false_iff_eq.mpr c39
                      clear c39
                      replace H := Option.bind_eq_some_iff.mp H
                      obtain ⟨t193, A400, H⟩ := H
                      replace H : (if t193 = t180 then ((float_Key.f t179).bind fun t194 => ((float_Key.f t180).bind fun t195 => (if t194 ≤ t195 then ((float_Min.f a0 a0).bind fun t196 => (some (t196 == a0))) else (some false)))) else (some false)) = some r := H
                      have A40 := Aside0.mk A400
                      clear A400
                      by_cases c41 : t193 = t180
                      · rw [if_pos c41] at H
                        have c41b0 : (t193 == t180) = true := beq_iff_eq.mpr c41
                        have c41b1 : (t193 != t180) = false := bne_eq_false_iff_eq.mpr c41
                        clear c41
                        replace H := Option.bind_eq_some_iff.mp H
                        obtain ⟨t194, A420, H⟩ := H
                        replace H : ((float_Key.f t180).bind fun t195 => (if t194 ≤ t195 then ((float_Min.f a0 a0).bind fun t196 => (some (t196 == a0))) else (some false))) = some r := H
                        have A42 := Aside0.mk A420
                        clear A420
                        replace H := Option.bind_eq_some_iff.mp H
                        obtain ⟨t195, A430, H⟩ := H
                        replace H : (if t194 ≤ t195 then ((float_Min.f a0 a0).bind fun t196 => (some (t196 == a0))) else (some false)) = some r := H
                        have A43 := Aside0.mk A430
                        clear A430
                        by_cases c44 : t194 ≤ t195
                        · rw [if_pos c44] at H
                          have c44b0 : decide (t194 ≤ t195) = true := decide_eq_true c44
                          clear c44
                          replace H := Option.bind_eq_some_iff.mp H
                          obtain ⟨t196, A450, H⟩ := H
                          replace H : (some (t196 == a0)) = some r := H
                          have A45 := Aside0.mk A450
                          clear A450
                          obtain rfl := Option.some.inj H
                          go_wp2_with (first | (go_at_call 15; (with_reducible refine (float_Less.calls t180 t179 false _ A36.out).mono ?_); rintro e w' ⟨rfl, ⟨nd, rfl⟩⟩) | (go_at_call 21; (with_reducible refine (float_Min.calls a1 a0 t192 _ A38.out).mono ?_); rintro e w46 ⟨rfl, hb⟩; have n0_ := Aside0.mk (below_step (by repeat (first | (with_reducible first | exact HB.out | apply below_alloc | apply pw_below_drewN | apply below_drew1) | exact HB.out)) hb); clear HB; have HB := n0_; clear n0_; (try clear hb); (try clear hb2); (try clear hk); (try clear hi)) | (go_at_call 23; (with_reducible refine (float_Max.calls a1 a0 t193 _ A40.out).mono ?_); rintro e w47 ⟨rfl, hb⟩; have n0_ := Aside0.mk (below_step (by repeat (first | (with_reducible first | exact HB.out | apply below_alloc | apply pw_below_drewN | apply below_drew1) | exact HB.out)) hb); clear HB; have HB := n0_; clear n0_; (try clear hb); (try clear hb2); (try clear hk); (try clear hi)) | (go_at_call 13; (with_reducible refine (float_Key.calls t179 t194 _ A42.out).mono ?_); rintro e w' ⟨rfl, ⟨nd, rfl⟩⟩) | (go_at_call 13; (with_reducible refine (float_Key.calls t180 t195 _ A43.out).mono ?_); rintro e w' ⟨rfl, ⟨nd, rfl⟩⟩) | (go_at_call 21; (with_reducible refine (float_Min.calls a0 a0 t196 _ A45.out).mono ?_); rintro e w48 ⟨rfl, hb⟩; have n0_ := Aside0.mk (below_step (by repeat (first | (with_reducible first | exact HB.out | apply below_alloc | apply pw_below_drewN | apply below_drew1) | exact HB.out)) hb); clear HB; have HB := n0_; clear n0_; (try clear hb); (try clear hb2); (try clear hk); (try clear hi)))
                          go_ret
                          exact ⟨by first | rfl | (simp [errW_none, errW_some] <;> rfl) | (simp [*, errW_none, errW_some] <;> rfl), by repeat (first | (with_reducible first | exact HB.out | apply below_alloc | apply pw_below_drewN | apply below_drew1) | exact HB.out)⟩
                        · rw [if_neg c44] at H
                          have c44b0 : decide (t194 ≤ t195) = false := decide_eq_false c44
                          clear c44
                          obtain rfl := Option.some.inj H
                          exact absurd hT_.out (by decide)
                      · rw [if_neg c41] at H
                        have c41b0 : (t193 == t180) = false := beq_eq_false_iff_ne.mpr c41
                        have c41b1 : (t193 != t180) = true := bne_iff_ne.mpr c41
                        obtain rfl := Option.some.inj H
                        exact absurd hT_.out (by decide)
                    · rw [if_neg c39] at H
                      have c39b0 : (t192 == t179) = false := beq_eq_false_iff_ne.mpr c39
                      have c39b1 : (t192 != t179) = true := bne_iff_ne.mpr c39
                      obtain rfl := Option.some.inj H
                      exact absurd hT_.out (by decide)
                · rw [if_neg c35] at H
                  have c35b0 : (t180 == a0) = false := beq_eq_false_iff_ne.mpr c35
                  have c35b1 : (t180 != a0) = true := bne_iff_ne.mpr c35
                  obtain rfl := Option.some.inj H
                  exact absurd hT_.out (by decide)
              · rw [if_neg c34] at H
                have c34b0 : (t179 == a1) = false := beq_eq_false_iff_ne.mpr c34
                have c34b1 : (t179 != a1) = true := bne_iff_ne.mpr c34
                obtain rfl := Option.some.inj H
                exact absurd hT_.out (by decide)
          · rw [if_neg c19] at H
            have c19b0 : (t179 == a0) = false := beq_eq_false_iff_ne.mpr c19
            have c19b1 : (t179 != a0) = true := bne_iff_ne.mpr c19
            by_cases c49 : t179 = a1
            · rw [if_pos c49] at H
              have c49b0 : (t179 == a1) = true := beq_iff_eq.mpr c49
              have c49b1 : (t179 != a1) = false := bne_eq_false_iff_eq.mpr c49
              clear c49
              by_cases c50 : t180 = a0
              · rw [if_pos c50] at H
                have c50b0 : (t180 == a0) = true := beq_iff_eq.mpr c50
                have c50b1 : (t180 != a0) = false := bne_eq_false_iff_eq.mpr c50
                clear c50
                replace H := Option.bind_eq_some_iff.mp H
                obtain ⟨t197, A510, H⟩ := H
                replace H : (if t197 = true then (some false) else ((float_Min.f a1 a0).bind fun t198 => (if t198 = t179 then ((float_Max.f a1 a0).bind fun t199 => (if t199 = t180 then ((float_Key.f t179).bind fun t200 => ((float_Key.f t180).bind fun t201 => (if t200 ≤ t201 then ((float_Min.f a0 a0).bind fun t202 => (some (t202 == a0))) else (some false)))) else (some false))) else (some false)))) = some r := H
                have A51 := Aside0.mk A510
                clear A510
                by_cases c52 : t197 = true
                · subst c52
                  have H1 : (some false) = some r := by rw [if_pos rfl] at H; exact H
                  clear H
                  have H := H1
                  clear H1
                  obtain rfl := Option.some.inj H
                  exact absurd hT_.out (by decide)
                · replace c52 := Bool.eq_false_iff.mpr c52
                  subst c52
                  have H1 : ((float_Min.f a1 a0).bind fun t198 => (if t198 = t179 then ((float_Max.f a1 a0).bind fun t199 => (if t199 = t180 then ((float_Key.f t179).bind fun t200 => ((float_Key.f t180).bind fun t201 => (if t200 ≤ t201 then ((float_Min.f a0 a0).bind fun t202 => (some (t202 == a0))) else (some false)))) else (some false))) else (some false))) = some r := by rw [if_neg (show ¬ (false = true) by decide)] at H; exact H
                  clear H
                  have H := H1
                  clear H1
                  replace H := Option.bind_eq_some_iff.mp H
                  obtain ⟨t198, A530, H⟩ := H
                  replace H : (if t198 = t179 then ((float_Max.f a1 a0).bind fun t199 => (if t199 = t180 then ((float_Key.f t179).bind fun t200 => ((float_Key.f t180).bind fun t201 => (if t200 ≤ t201 then ((float_Min.f a0 a0).bind fun t202 => (some (t202 == a0))) else (some false)))) else (some false))) else (some false)) = some r := H
                  have A53 := Aside0.mk A530
                  clear A530
                  by_cases c54 : t198 = t179
                  · rw [if_pos c54] at H
                    have c54b0 : (t198 == t179) = true := beq_iff_eq.mpr c54
                    have c54b1 : (t198 != t179) = false := bne_eq_false_iff_eq.mpr c54
                    clear c54
                    replace H := Option.bind_eq_some_iff.mp H
                    obtain ⟨t199, A550, H⟩ := H
                    replace H : (if t199 = t180 then ((float_Key.f t179).bind fun t200 => ((float_Key.f t180).bind fun t201 => (if t200 ≤ t201 then ((float_Min.f a0 a0).bind fun t202 => (some (t202 == a0))) else (some false)))) else (some false)) = some r := H
                    have A55 := Aside0.mk A550
                    clear A550
                    by_cases c56 : t199 = t180
                    · rw [if_pos c56] at H
                      have c56b0 : (t199 == t180) = true := beq_iff_eq.mpr c56
                      have c56b1 : (t199 != t180) = false := bne_eq_false_iff_eq.mpr c56
                      clear c56
                      replace H := Option.bind_eq_some_iff.mp H
                      obtain ⟨t200, A570, H⟩ := H
                      replace H : ((float_Key.f t180).bind fun t201 => (if t200 ≤ t201 then ((float_Min.f a0 a0).bind fun t202 => (some (t202 == a0))) else (some false))) = some r := H
                      have A57 := Aside0.mk A570
                      clear A570
                      replace H := Option.bind_eq_some_iff.mp H
                      obtain ⟨t201, A580, H⟩ := H
                      replace H : (if t200 ≤ t201 then ((float_Min.f a0 a0).bind fun t202 => (some (t202 == a0))) else (some false)) = some r := H
                      have A58 := Aside0.mk A580
                      clear A580
                      by_cases c59 : t200 ≤ t201
                      · rw [if_pos c59] at H
                        have c59b0 : decide (t200 ≤ t201) = true := decide_eq_true c59
                        clear c59
                        replace H := Option.bind_eq_some_iff.mp H
                        obtain ⟨t202, A600, H⟩ := H
                        replace H : (some (t202 == a0)) = some r := H
                        have A60 := Aside0.mk A600
                        clear A600
                        obtain rfl := Option.some.inj H
                        go_wp2_with (first | (go_at_call 15; (with_reducible refine (float_Less.calls t180 t179 false _ A51.out).mono ?_); rintro e w' ⟨rfl, ⟨nd, rfl⟩⟩) | (go_at_call 21; (with_reducible refine (float_Min.calls a1 a0 t198 _ A53.out).mono ?_); rintro e w61 ⟨rfl, hb⟩; have n0_ := Aside0.mk (below_step (by repeat (first | (with_reducible first | exact HB.out | apply below_alloc | apply pw_below_drewN | apply below_drew1) | exact HB.out)) hb); clear HB; have HB := n0_; clear n0_; (try clear hb); (try clear hb2); (try clear hk); (try clear hi)) | (go_at_call 23; (with_reducible refine (float_Max.calls a1 a0 t199 _ A55.out).mono ?_); rintro e w62 ⟨rfl, hb⟩; have n0_ := Aside0.mk (below_step (by repeat (first | (with_reducible first | exact HB.out | apply below_alloc | apply pw_below_drewN | apply below_drew1) | exact HB.out)) hb); clear HB; have HB := n0_; clear n0_; (try clear hb); (try clear hb2); (try clear hk); (try clear hi)) | (go_at_call 13; (with_reducible refine (float_Key.calls t179 t200 _ A57.out).mono ?_); rintro e w' ⟨rfl, ⟨nd, rfl⟩⟩) | (go_at_call 13; (with_reducible refine (float_Key.calls t180 t201 _ A58.out).mono ?_); rintro e w' ⟨rfl, ⟨nd, rfl⟩⟩) | (go_at_call 21; (with_reducible refine (float_Min.calls a0 a0 t202 _ A60.out).mono ?_); rintro e w63 ⟨rfl, hb⟩; have n0_ := Aside0.mk (below_step (by repeat (first | (with_reducible first | exact HB.out | apply below_alloc | apply pw_below_drewN | apply below_drew1) | exact HB.out)) hb); clear HB; have HB := n0_; clear n0_; (try clear hb); (try clear hb2); (try clear hk); (try clear hi)))
                        go_ret
                        exact ⟨by first | rfl | (simp [errW_none, errW_some] <;> rfl) | (simp [*, errW_none, errW_some] <;> rfl), by repeat (first | (with_reducible first | exact HB.out | apply below_alloc | apply pw_below_drewN | apply below_drew1) | exact HB.out)⟩
                      · rw [if_neg c59] at H
                        have c59b0 : decide (t200 ≤ t201) = false := decide_eq_false c59
                        clear c59
                        obtain rfl := Option.some.inj H
                        exact absurd hT_.out (by decide)
                    · rw [if_neg c56] at H
                      have c56b0 : (t199 == t180) = false := beq_eq_false_iff_ne.mpr c56
                      have c56b1 : (t199 != t180) = true := bne_iff_ne.mpr c56
                      obtain rfl := Option.some.inj H
                      exact absurd hT_.out (by decide)
                  · rw [if_neg c54] at H
                    have c54b0 : (t198 == t179) = false := beq_eq_false_iff_ne.mpr c54
                    have c54b1 : (t198 != t179) = true := bne_iff_ne.mpr c54
                    obtain rfl := Option.some.inj H
                    exact absurd hT_.out (by decide)
              · rw [if_neg c50] at H
                have c50b0 : (t180 == a0) = false := beq_eq_false_iff_ne.mpr c50
                have c50b1 : (t180 != a0) = true := bne_iff_ne.mpr c50
                obtain rfl := Option.some.inj H
                exact absurd hT_.out (by decide)
            · rw [if_neg c49] at H
              have c49b0 : (t179 == a1) = false := beq_eq_false_iff_ne.mpr c49
              have c49b1 : (t179 != a1) = true := bne_iff_ne.mpr c49
              obtain rfl := Option.some.inj H
              exact absurd hT_.out (by decide)
        · replace c18 := Bool.eq_false_iff.mpr c18
          subst c18
          have H1 : (some false) = some r := by rw [if_neg (show ¬ (false = true) by decide)] at H; exact H
          clear H
          have H := H1
          clear H1
          obtain rfl := Option.some.inj H
          exact absurd hT_.out (by decide)

/-- THE ONE PURE STATEMENT of heronrylaw02_FloatMin: yours. -/
def heronrylaw02_FloatMin.Pure : Prop := ∀ (a0 : Int) (a1 : Int), (Lit.int .u64 a0).wf = true → (Lit.int .u64 a1).wf = true → ∃ k, heronrylaw02_FloatMin.f k a0 a1 = some true
theorem heronrylaw02_FloatMin.walk (P : heronrylaw02_FloatMin.Pure) (a0 : Int) (a1 : Int) (w : World) (w0 : (Lit.int .u64 a0).wf = true) (w1 : (Lit.int .u64 a1).wf = true) :
    Calls Try.prog 6 #[.int .u64 a0, .int .u64 a1] w fun e w' => e = .returned (.bool true) ∧ Below w.heap.size w w' := by
  obtain ⟨k, h⟩ := P a0 a1 w0 w1
  refine (heronrylaw02_FloatMin.calls k a0 a1 true w ⟨rfl⟩ h).mono ?_
  rintro e w' ⟨rfl, hd⟩
  exact ⟨rfl, hd⟩

end Go.Proofs.Ytkcoabnghdlboaa.Q
