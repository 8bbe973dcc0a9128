-- Written by hprint.py (the kit's printer, with functions that are given). Lean checks it.
import Derived.Test.YtkcoabnghdlboaaQ0
import Derived.Test.YtkcoabnghdlboaaQ3
import Derived.Test.YtkcoabnghdlboaaQ11
namespace Go.Proofs.Ytkcoabnghdlboaa.Q
open Go.RowKit Go.Proofs.YtkcoabnghdlboaaW.PrintWords Go.Proofs.YtkcoabnghdlboaaW.PrintLast Go.Proofs.YtkcoabnghdlboaaW.PrintMore
attribute [local go_sem] max2_int min2_int max_two min_two max_three min_three max_four min_four   -- for this text's walks alone
set_option linter.unusedVariables false
set_option linter.unusedSimpArgs false

/-! ### heronryref02_Of: function 36 -/
mutual
def heronryref02_Of.j0 : Nat → Int → Int → Option (Int)
  | 0, _, _ => none
  | k + 1, x3, x4 => (heronryref02_digits.f k x4).bind fun t263 => (if t263 ≤ 53 then (if 0 ≤ (IntKind.u64.wrap (wrap64 (53 - t263))) then ((heronryref02_fraction.f (shl .u64 x4 (IntKind.u64.wrap (wrap64 (53 - t263))))).bind fun t264 => (some (Go.bits .or .u64 (Go.bits .or .u64 x3 (IntKind.u64.wrap ((IntKind.u64.wrap (wrap64 ((wrap64 (t263 - 1)) + 1023))) * 4503599627370496))) t264))) else (none)) else (if 0 ≤ (IntKind.u64.wrap (wrap64 (t263 - 53))) then (if 0 ≤ (IntKind.u64.wrap ((IntKind.u64.wrap (wrap64 (t263 - 53))) - 1)) then (if (IntKind.u64.wrap (x4 - (shl .u64 (shr .u64 x4 (IntKind.u64.wrap (wrap64 (t263 - 53)))) (IntKind.u64.wrap (wrap64 (t263 - 53)))))) > (shl .u64 1 (IntKind.u64.wrap ((IntKind.u64.wrap (wrap64 (t263 - 53))) - 1))) then (heronryref02_Of.j1 k x3 (IntKind.u64.wrap (wrap64 ((wrap64 (t263 - 1)) + 1023))) (shr .u64 x4 (IntKind.u64.wrap (wrap64 (t263 - 53)))) true) else (if (IntKind.u64.wrap (x4 - (shl .u64 (shr .u64 x4 (IntKind.u64.wrap (wrap64 (t263 - 53)))) (IntKind.u64.wrap (wrap64 (t263 - 53)))))) = (shl .u64 1 (IntKind.u64.wrap ((IntKind.u64.wrap (wrap64 (t263 - 53))) - 1))) then (heronryref02_Of.j1 k x3 (IntKind.u64.wrap (wrap64 ((wrap64 (t263 - 1)) + 1023))) (shr .u64 x4 (IntKind.u64.wrap (wrap64 (t263 - 53)))) ((Int.tmod (shr .u64 x4 (IntKind.u64.wrap (wrap64 (t263 - 53)))) 2) == 1)) else (heronryref02_Of.j1 k x3 (IntKind.u64.wrap (wrap64 ((wrap64 (t263 - 1)) + 1023))) (shr .u64 x4 (IntKind.u64.wrap (wrap64 (t263 - 53)))) false))) else (none)) else (none)))
def heronryref02_Of.j1 : Nat → Int → Int → Int → Bool → Option (Int)
  | 0, _, _, _, _ => none
  | k + 1, x3, x6, x8, x64 => if x64 = true then (if (IntKind.u64.wrap (x8 + 1)) = 9007199254740992 then (some (Go.bits .or .u64 x3 (IntKind.u64.wrap ((IntKind.u64.wrap (x6 + 1)) * 4503599627370496)))) else ((heronryref02_fraction.f (IntKind.u64.wrap (x8 + 1))).bind fun t265 => (some (Go.bits .or .u64 (Go.bits .or .u64 x3 (IntKind.u64.wrap (x6 * 4503599627370496))) t265)))) else (if x8 = 9007199254740992 then (some (Go.bits .or .u64 x3 (IntKind.u64.wrap ((IntKind.u64.wrap (x6 + 1)) * 4503599627370496)))) else ((heronryref02_fraction.f x8).bind fun t266 => (some (Go.bits .or .u64 (Go.bits .or .u64 x3 (IntKind.u64.wrap (x6 * 4503599627370496))) t266))))
end
def heronryref02_Of.f (k : Nat) (a0 : Int) : Option (Int) := if a0 = 0 then (some 0) else (if a0 < 0 then (heronryref02_Of.j0 k 9223372036854775808 (IntKind.u64.wrap (-(IntKind.u64.wrap (a0))))) else (heronryref02_Of.j0 k 0 (IntKind.u64.wrap (a0))))
theorem heronryref02_Of.mono_l : ∀ k, (∀ y0 y1, LeO (heronryref02_Of.j0 k y0 y1) (heronryref02_Of.j0 (k + 1) y0 y1)) ∧ (∀ y0 y1 y2 y3, LeO (heronryref02_Of.j1 k y0 y1 y2 y3) (heronryref02_Of.j1 (k + 1) y0 y1 y2 y3))
  | 0 => ⟨fun _ _ r h => by simp [heronryref02_Of.j0] at h, fun _ _ _ _ r h => by simp [heronryref02_Of.j1] at h⟩
  | k + 1 => by
    obtain ⟨ih0, ih1⟩ := heronryref02_Of.mono_l k
    refine ⟨?_, ?_⟩
    · intro y0 y1
      unfold heronryref02_Of.j0
      repeat' first
      | (with_reducible exact ih0 _ _)
      | (with_reducible exact ih1 _ _ _ _)
      | (with_reducible exact heronryref02_digits.mono _ _)
      | (with_reducible exact LeO.refl _)
      | (with_reducible exact LeO.none _)
      | (with_reducible refine LeO.ite ?_ ?_)
      | (with_reducible refine LeO.bind ?_ (fun _ => ?_))
      | exact ih0 _ _
      | exact ih1 _ _ _ _
      | exact heronryref02_digits.mono _ _
      | exact LeO.none _
      | refine LeO.ite ?_ ?_
      | refine LeO.bind ?_ (fun _ => ?_)
    · intro y0 y1 y2 y3
      unfold heronryref02_Of.j1
      repeat' first
      | (with_reducible exact ih0 _ _)
      | (with_reducible exact ih1 _ _ _ _)
      | (with_reducible exact heronryref02_digits.mono _ _)
      | (with_reducible exact LeO.refl _)
      | (with_reducible exact LeO.none _)
      | (with_reducible refine LeO.ite ?_ ?_)
      | (with_reducible refine LeO.bind ?_ (fun _ => ?_))
      | exact ih0 _ _
      | exact ih1 _ _ _ _
      | exact heronryref02_digits.mono _ _
      | exact LeO.none _
      | refine LeO.ite ?_ ?_
      | refine LeO.bind ?_ (fun _ => ?_)
theorem heronryref02_Of.mono : ∀ a0 k, LeO (heronryref02_Of.f k a0) (heronryref02_Of.f (k + 1) a0) := by
  intro a0 k
  obtain ⟨ih0, ih1⟩ := heronryref02_Of.mono_l k
  unfold heronryref02_Of.f
  repeat' first
      | (with_reducible exact ih0 _ _)
      | (with_reducible exact ih1 _ _ _ _)
      | (with_reducible exact heronryref02_digits.mono _ _)
      | (with_reducible exact LeO.refl _)
      | (with_reducible exact LeO.none _)
      | (with_reducible refine LeO.ite ?_ ?_)
      | (with_reducible refine LeO.bind ?_ (fun _ => ?_))
      | exact ih0 _ _
      | exact ih1 _ _ _ _
      | exact heronryref02_digits.mono _ _
      | exact LeO.none _
      | refine LeO.ite ?_ ?_
      | refine LeO.bind ?_ (fun _ => ?_)
set_option maxHeartbeats 8000000 in
set_option maxRecDepth 100000 in
theorem heronryref02_Of.calls (k : Nat) (a0 : Int) (r : Int) (w : World) (h : heronryref02_Of.f k a0 = some r) :
    Calls Try.prog 36 #[.int .i64 a0] w fun e w' => e = .returned (.int .u64 r) ∧ Drawn0 w w' := by
  have H : (if a0 = 0 then (some 0) else (if a0 < 0 then (heronryref02_Of.j0 k 9223372036854775808 (IntKind.u64.wrap (-(IntKind.u64.wrap (a0))))) else (heronryref02_Of.j0 k 0 (IntKind.u64.wrap (a0))))) = some r := h
  clear h
  by_cases c2 : a0 = 0
  · rw [if_pos c2] at H
    have c2b0 : (a0 == 0) = true := beq_iff_eq.mpr c2
    have c2b1 : (a0 != 0) = false := bne_eq_false_iff_eq.mpr c2
    clear c2
    obtain rfl := Option.some.inj H
    go_enter Try.func36, Try.ntmps36
    go_wp2
    go_ret
    exact ⟨by first | rfl | (simp; done) | (simp [*]; done), by repeat (first | exact Drawn0.refl _ | apply Drawn0.step)⟩
  · rw [if_neg c2] at H
    have c2b0 : (a0 == 0) = false := beq_eq_false_iff_ne.mpr c2
    have c2b1 : (a0 != 0) = true := bne_iff_ne.mpr c2
    have HC3 := Aside0.mk H
    clear H
    go_enter Try.func36, Try.ntmps36
    go_upto_if 16 with (fail)
    go_cut [3, 4] (fun v3 v4 wc => ∃ (kq : Nat) (x3_2 : Int) (x4_2 : Int), v3 = .int .u64 x3_2 ∧ v4 = .int .u64 x4_2 ∧ Aside0 (heronryref02_Of.j0 kq x3_2 x4_2 = some r) ∧ Aside0 (kq ≤ k) ∧ Drawn0 w wc)
    case first =>
      have H := HC3.out
      clear HC3
      by_cases c4 : a0 < 0
      · rw [if_pos c4] at H
        have c4b0 : decide (a0 < 0) = true := decide_eq_true c4
        clear c4
        (first | rw [c4b0] | (simp only [i64_w, i32_w]; rw [c4b0]) | skip)
        have H' := Aside0.mk H
        clear H
        go_wp2
        go_meet
        case rel => exact ⟨_, (9223372036854775808), (IntKind.u64.wrap (-(IntKind.u64.wrap (a0)))), (by first | rfl | (simp; done) | (simp [*]; done)), (by first | rfl | (simp; done) | (simp [*]; done)), H', ⟨by first | omega | exact Nat.le_refl _⟩, by repeat (first | exact Drawn0.refl _ | apply Drawn0.step)⟩
      · rw [if_neg c4] at H
        have c4b0 : decide (a0 < 0) = false := decide_eq_false c4
        clear c4
        (first | rw [c4b0] | (simp only [i64_w, i32_w]; rw [c4b0]) | skip)
        have H' := Aside0.mk H
        clear H
        go_wp2
        go_meet
        case rel => exact ⟨_, (0), (IntKind.u64.wrap (a0)), (by first | rfl | (simp; done) | (simp [*]; done)), (by first | rfl | (simp; done) | (simp [*]; done)), H', ⟨by first | omega | exact Nat.le_refl _⟩, by repeat (first | exact Drawn0.refl _ | apply Drawn0.step)⟩
    case rest =>
      clear HC3
      try clear c2
      try clear c2b0
      try clear c2b1
      try clear p2
      try clear c3
      try clear c4
      try clear c4b0
      obtain ⟨kq, x3_2, x4_2, rfl, rfl, HA, HJ2, ⟨mc2, rfl⟩⟩ := hcut
      cases kq with
      | zero => exact absurd HA.out (by simp [heronryref02_Of.j0])
      | succ kj2 =>
        have H := HA.out
        clear HA
        simp only [heronryref02_Of.j0] at H
        replace H := Option.bind_eq_some_iff.mp H
        obtain ⟨t263, A50, H⟩ := H
        replace H : (if t263 ≤ 53 then (if 0 ≤ (IntKind.u64.wrap (wrap64 (53 - t263))) then ((heronryref02_fraction.f (shl .u64 x4_2 (IntKind.u64.wrap (wrap64 (53 - t263))))).bind fun t264 => (some (Go.bits .or .u64 (Go.bits .or .u64 x3_2 (IntKind.u64.wrap ((IntKind.u64.wrap (wrap64 ((wrap64 (t263 - 1)) + 1023))) * 4503599627370496))) t264))) else (none)) else (if 0 ≤ (IntKind.u64.wrap (wrap64 (t263 - 53))) then (if 0 ≤ (IntKind.u64.wrap ((IntKind.u64.wrap (wrap64 (t263 - 53))) - 1)) then (if (IntKind.u64.wrap (x4_2 - (shl .u64 (shr .u64 x4_2 (IntKind.u64.wrap (wrap64 (t263 - 53)))) (IntKind.u64.wrap (wrap64 (t263 - 53)))))) > (shl .u64 1 (IntKind.u64.wrap ((IntKind.u64.wrap (wrap64 (t263 - 53))) - 1))) then (heronryref02_Of.j1 kj2 x3_2 (IntKind.u64.wrap (wrap64 ((wrap64 (t263 - 1)) + 1023))) (shr .u64 x4_2 (IntKind.u64.wrap (wrap64 (t263 - 53)))) true) else (if (IntKind.u64.wrap (x4_2 - (shl .u64 (shr .u64 x4_2 (IntKind.u64.wrap (wrap64 (t263 - 53)))) (IntKind.u64.wrap (wrap64 (t263 - 53)))))) = (shl .u64 1 (IntKind.u64.wrap ((IntKind.u64.wrap (wrap64 (t263 - 53))) - 1))) then (heronryref02_Of.j1 kj2 x3_2 (IntKind.u64.wrap (wrap64 ((wrap64 (t263 - 1)) + 1023))) (shr .u64 x4_2 (IntKind.u64.wrap (wrap64 (t263 - 53)))) ((Int.tmod (shr .u64 x4_2 (IntKind.u64.wrap (wrap64 (t263 - 53)))) 2) == 1)) else (heronryref02_Of.j1 kj2 x3_2 (IntKind.u64.wrap (wrap64 ((wrap64 (t263 - 1)) + 1023))) (shr .u64 x4_2 (IntKind.u64.wrap (wrap64 (t263 - 53)))) false))) else (none)) else (none))) = some r := H
        have A5 := Aside0.mk A50
        clear A50
        by_cases c6 : t263 ≤ 53
        · rw [if_pos c6] at H
          have c6b0 : decide (t263 ≤ 53) = true := decide_eq_true c6
          clear c6
          obtain ⟨ji7, hji7⟩ : ∃ j_ : Int, (IntKind.u64.wrap (wrap64 (53 - t263))) = j_ := ⟨_, rfl⟩
          replace H : (if 0 ≤ (ji7) then ((heronryref02_fraction.f (shl .u64 x4_2 (ji7))).bind fun t264 => (some (Go.bits .or .u64 (Go.bits .or .u64 x3_2 (IntKind.u64.wrap ((IntKind.u64.wrap (wrap64 ((wrap64 (t263 - 1)) + 1023))) * 4503599627370496))) t264))) else (none)) = some r := by first | (rw [hji7] at H; exact H) | (simp only [hji7] at H ⊢; exact H)
          (try rw [hji7] at A5)
          by_cases c8 : 0 ≤ (ji7)
          · rw [if_pos c8] at H
            have c8b0 := eq_true c8
            have c8b1 : decide (0 ≤ (ji7)) = true := decide_eq_true c8
            clear c8
            obtain ⟨ji9, hji9⟩ : ∃ j_ : Int, (shl .u64 x4_2 (ji7)) = j_ := ⟨_, rfl⟩
            replace H : ((heronryref02_fraction.f (ji9)).bind fun t264 => (some (Go.bits .or .u64 (Go.bits .or .u64 x3_2 (IntKind.u64.wrap ((IntKind.u64.wrap (wrap64 ((wrap64 (t263 - 1)) + 1023))) * 4503599627370496))) t264))) = some r := by first | (rw [hji9] at H; exact H) | (simp only [hji9] at H ⊢; exact H)
            (try rw [hji9] at A5)
            have hji9_ : (IntKind.u64.wrap (x4_2 * 2 ^ min (ji7).toNat 64)) = ji9 := hji9
            have hji9z : (ji7) ≤ 64 → (IntKind.u64.wrap (x4_2 * 2 ^ (ji7).toNat)) = ji9 := shl_small hji9
            replace H := Option.bind_eq_some_iff.mp H
            obtain ⟨t264, A100, H⟩ := H
            replace H : (some (Go.bits .or .u64 (Go.bits .or .u64 x3_2 (IntKind.u64.wrap ((IntKind.u64.wrap (wrap64 ((wrap64 (t263 - 1)) + 1023))) * 4503599627370496))) t264)) = some r := H
            have A10 := Aside0.mk A100
            clear A100
            obtain rfl := Option.some.inj H
            go_wp2_with (first | ((with_reducible refine gate_callee (f := 49) rfl ?_); refine goesL_ (some 20) rfl rfl Try.func49 (by kernel_rfl) rfl #[.int .u64 x4_2] rfl (by (try simp only [List.map_toArray, List.map_cons, List.map_nil]); first | done | rfl | (simp only [List.length_drop, List.length_take]; rfl)) ?_; (with_reducible refine (heronryref02_digits.calls kj2 x4_2 t263 _ A5.out).mono ?_); rintro e w' ⟨rfl, ⟨nd, rfl⟩⟩; refine ⟨_, rfl, ?_⟩) | ((with_reducible refine gate_callee (f := 48) rfl ?_); refine goesL_ (some 36) rfl rfl Try.func48 (by kernel_rfl) rfl #[.int .u64 ji9] rfl (by (try simp only [List.map_toArray, List.map_cons, List.map_nil]); first | done | (simp only [hji9]; rfl) | rfl | (simp only [List.length_drop, List.length_take]; rfl)) ?_; (with_reducible refine (heronryref02_fraction.calls ji9 t264 _ A10.out).mono ?_); rintro e w' ⟨rfl, ⟨nd, rfl⟩⟩; refine ⟨_, rfl, ?_⟩))
            go_ret
            exact ⟨by first | rfl | (simp; done) | (simp only [← hji7, ← hji9] <;> (first | rfl | simp)) | (simp [*]; done), by repeat (first | exact Drawn0.refl _ | apply Drawn0.step)⟩
          · rw [if_neg c8] at H
            exact absurd H (by simp)
        · rw [if_neg c6] at H
          have c6b0 : decide (t263 ≤ 53) = false := decide_eq_false c6
          clear c6
          obtain ⟨ji11, hji11⟩ : ∃ j_ : Int, (IntKind.u64.wrap (wrap64 (t263 - 53))) = j_ := ⟨_, rfl⟩
          replace H : (if 0 ≤ (ji11) then (if 0 ≤ (IntKind.u64.wrap ((ji11) - 1)) then (if (IntKind.u64.wrap (x4_2 - (shl .u64 (shr .u64 x4_2 (ji11)) (ji11)))) > (shl .u64 1 (IntKind.u64.wrap ((ji11) - 1))) then (heronryref02_Of.j1 kj2 x3_2 (IntKind.u64.wrap (wrap64 ((wrap64 (t263 - 1)) + 1023))) (shr .u64 x4_2 (ji11)) true) else (if (IntKind.u64.wrap (x4_2 - (shl .u64 (shr .u64 x4_2 (ji11)) (ji11)))) = (shl .u64 1 (IntKind.u64.wrap ((ji11) - 1))) then (heronryref02_Of.j1 kj2 x3_2 (IntKind.u64.wrap (wrap64 ((wrap64 (t263 - 1)) + 1023))) (shr .u64 x4_2 (ji11)) ((Int.tmod (shr .u64 x4_2 (ji11)) 2) == 1)) else (heronryref02_Of.j1 kj2 x3_2 (IntKind.u64.wrap (wrap64 ((wrap64 (t263 - 1)) + 1023))) (shr .u64 x4_2 (ji11)) false))) else (none)) else (none)) = some r := by first | (rw [hji11] at H; exact H) | (simp only [hji11] at H ⊢; exact H)
          (try rw [hji11] at A5)
          by_cases c12 : 0 ≤ (ji11)
          · rw [if_pos c12] at H
            have c12b0 := eq_true c12
            have c12b1 : decide (0 ≤ (ji11)) = true := decide_eq_true c12
            clear c12
            obtain ⟨ji13, hji13⟩ : ∃ j_ : Int, (shr .u64 x4_2 (ji11)) = j_ := ⟨_, rfl⟩
            replace H : (if 0 ≤ (IntKind.u64.wrap ((ji11) - 1)) then (if (IntKind.u64.wrap (x4_2 - (shl .u64 (ji13) (ji11)))) > (shl .u64 1 (IntKind.u64.wrap ((ji11) - 1))) then (heronryref02_Of.j1 kj2 x3_2 (IntKind.u64.wrap (wrap64 ((wrap64 (t263 - 1)) + 1023))) ji13 true) else (if (IntKind.u64.wrap (x4_2 - (shl .u64 (ji13) (ji11)))) = (shl .u64 1 (IntKind.u64.wrap ((ji11) - 1))) then (heronryref02_Of.j1 kj2 x3_2 (IntKind.u64.wrap (wrap64 ((wrap64 (t263 - 1)) + 1023))) ji13 ((Int.tmod (ji13) 2) == 1)) else (heronryref02_Of.j1 kj2 x3_2 (IntKind.u64.wrap (wrap64 ((wrap64 (t263 - 1)) + 1023))) ji13 false))) else (none)) = some r := by first | (rw [hji13] at H; exact H) | (simp only [hji13] at H ⊢; exact H)
            (try rw [hji13] at A5)
            have hji13_ : (x4_2 / 2 ^ min (ji11).toNat 64) = ji13 := hji13
            have hji13z : (ji11) ≤ 64 → (x4_2 / 2 ^ (ji11).toNat) = ji13 := shr_small hji13
            have c14b0 := eq_true (of_decide_eq_true (by first | (with_reducible assumption) | assumption) : 0 ≤ (ji11))
            obtain ⟨ji15, hji15⟩ : ∃ j_ : Int, (shl .u64 (ji13) (ji11)) = j_ := ⟨_, rfl⟩
            replace H : (if 0 ≤ (IntKind.u64.wrap ((ji11) - 1)) then (if (IntKind.u64.wrap (x4_2 - (ji15))) > (shl .u64 1 (IntKind.u64.wrap ((ji11) - 1))) then (heronryref02_Of.j1 kj2 x3_2 (IntKind.u64.wrap (wrap64 ((wrap64 (t263 - 1)) + 1023))) ji13 true) else (if (IntKind.u64.wrap (x4_2 - (ji15))) = (shl .u64 1 (IntKind.u64.wrap ((ji11) - 1))) then (heronryref02_Of.j1 kj2 x3_2 (IntKind.u64.wrap (wrap64 ((wrap64 (t263 - 1)) + 1023))) ji13 ((Int.tmod (ji13) 2) == 1)) else (heronryref02_Of.j1 kj2 x3_2 (IntKind.u64.wrap (wrap64 ((wrap64 (t263 - 1)) + 1023))) ji13 false))) else (none)) = some r := by first | (rw [hji15] at H; exact H) | (simp only [hji15] at H ⊢; exact H)
            (try rw [hji15] at A5)
            have hji15_ : (IntKind.u64.wrap ((ji13) * 2 ^ min (ji11).toNat 64)) = ji15 := hji15
            have hji15z : (ji11) ≤ 64 → (IntKind.u64.wrap ((ji13) * 2 ^ (ji11).toNat)) = ji15 := shl_small hji15
            obtain ⟨ji16, hji16⟩ : ∃ j_ : Int, (IntKind.u64.wrap ((ji11) - 1)) = j_ := ⟨_, rfl⟩
            replace H : (if 0 ≤ (ji16) then (if (IntKind.u64.wrap (x4_2 - (ji15))) > (shl .u64 1 (ji16)) then (heronryref02_Of.j1 kj2 x3_2 (IntKind.u64.wrap (wrap64 ((wrap64 (t263 - 1)) + 1023))) ji13 true) else (if (IntKind.u64.wrap (x4_2 - (ji15))) = (shl .u64 1 (ji16)) then (heronryref02_Of.j1 kj2 x3_2 (IntKind.u64.wrap (wrap64 ((wrap64 (t263 - 1)) + 1023))) ji13 ((Int.tmod (ji13) 2) == 1)) else (heronryref02_Of.j1 kj2 x3_2 (IntKind.u64.wrap (wrap64 ((wrap64 (t263 - 1)) + 1023))) ji13 false))) else (none)) = some r := by first | (rw [hji16] at H; exact H) | (simp only [hji16] at H ⊢; exact H)
            (try rw [hji16] at A5)
            by_cases c17 : 0 ≤ (ji16)
            · rw [if_pos c17] at H
              have c17b0 := eq_true c17
              have c17b1 : decide (0 ≤ (ji16)) = true := decide_eq_true c17
              clear c17
              obtain ⟨ji18, hji18⟩ : ∃ j_ : Int, (shl .u64 1 (ji16)) = j_ := ⟨_, rfl⟩
              replace H : (if (IntKind.u64.wrap (x4_2 - (ji15))) > (ji18) then (heronryref02_Of.j1 kj2 x3_2 (IntKind.u64.wrap (wrap64 ((wrap64 (t263 - 1)) + 1023))) ji13 true) else (if (IntKind.u64.wrap (x4_2 - (ji15))) = (ji18) then (heronryref02_Of.j1 kj2 x3_2 (IntKind.u64.wrap (wrap64 ((wrap64 (t263 - 1)) + 1023))) ji13 ((Int.tmod (ji13) 2) == 1)) else (heronryref02_Of.j1 kj2 x3_2 (IntKind.u64.wrap (wrap64 ((wrap64 (t263 - 1)) + 1023))) ji13 false))) = some r := by first | (rw [hji18] at H; exact H) | (simp only [hji18] at H ⊢; exact H)
              (try rw [hji18] at A5)
              have hji18_ : (IntKind.u64.wrap (1 * 2 ^ min (ji16).toNat 64)) = ji18 := hji18
              have hji18z : (ji16) ≤ 64 → (IntKind.u64.wrap (1 * 2 ^ (ji16).toNat)) = ji18 := shl_small hji18
              have hji18u : (IntKind.u64.wrap (2 ^ min (ji16).toNat 64)) = ji18 := by have h_ := hji18_; rw [Int.one_mul] at h_; exact h_
              have hji18v : (ji16) ≤ 64 → (IntKind.u64.wrap (2 ^ (ji16).toNat)) = ji18 := fun hle_ => by have h_ := hji18z hle_; rw [Int.one_mul] at h_; exact h_
              have HC19 := Aside0.mk H
              clear H
              go_upto_region 16 with (first | ((with_reducible refine gate_callee (f := 49) rfl ?_); refine goesL_ (some 20) rfl rfl Try.func49 (by kernel_rfl) rfl #[.int .u64 x4_2] rfl (by (try simp only [List.map_toArray, List.map_cons, List.map_nil]); first | done | rfl | (simp only [List.length_drop, List.length_take]; rfl)) ?_; (with_reducible refine (heronryref02_digits.calls kj2 x4_2 t263 _ A5.out).mono ?_); rintro e w' ⟨rfl, ⟨nd, rfl⟩⟩; refine ⟨_, rfl, ?_⟩))
              (try simp only [Act.put, List.setIfInBounds_toArray, List.set_cons_zero, List.set_cons_succ])
              go_cut [64] (fun v64 wc => ∃ (kq : Nat) (x64_18 : Bool), v64 = .bool x64_18 ∧ Aside0 (heronryref02_Of.j1 kq x3_2 (IntKind.u64.wrap (wrap64 ((wrap64 (t263 - 1)) + 1023))) ji13 x64_18 = some r) ∧ Aside0 (kq ≤ kj2) ∧ Drawn0 w wc)
              case first =>
                have H := HC19.out
                clear HC19
                by_cases c20 : (IntKind.u64.wrap (x4_2 - (ji15))) > (ji18)
                · rw [if_pos c20] at H
                  have c20b0 : decide ((ji18) < (IntKind.u64.wrap (x4_2 - (ji15)))) = true := decide_eq_true c20
                  clear c20
                  (first | rw [c20b0] | (simp only [i64_w, i32_w]; rw [c20b0]) | skip)
                  have H' := Aside0.mk H
                  clear H
                  go_wp2
                  go_meet
                  case rel => exact ⟨_, (true), (by first | rfl | (simp; done) | (simp [*]; done)), H', ⟨by have := HJ2.out; first | omega | exact Nat.le_refl _⟩, by repeat (first | exact Drawn0.refl _ | apply Drawn0.step)⟩
                · rw [if_neg c20] at H
                  have c20b0 : decide ((ji18) < (IntKind.u64.wrap (x4_2 - (ji15)))) = false := decide_eq_false c20
                  clear c20
                  (first | rw [c20b0] | (simp only [i64_w, i32_w]; rw [c20b0]) | skip)
                  by_cases c21 : (IntKind.u64.wrap (x4_2 - (ji15))) = (ji18)
                  · rw [if_pos c21] at H
                    have c21b0 : ((IntKind.u64.wrap (x4_2 - (ji15))) == (ji18)) = true := beq_iff_eq.mpr c21
                    have c21b1 : ((IntKind.u64.wrap (x4_2 - (ji15))) != (ji18)) = false := bne_eq_false_iff_eq.mpr c21
                    clear c21
                    have H' := Aside0.mk H
                    clear H
                    go_wp2
                    go_meet
                    case rel => exact ⟨_, (((Int.tmod (ji13) 2) == 1)), (by first | rfl | (simp; done) | (simp only [← hji13] <;> (first | rfl | simp)) | (simp [*]; done)), (by first | exact H' | (rw [hji13]; exact H') | (simp only [hji13]; exact H')), ⟨by have := HJ2.out; first | omega | exact Nat.le_refl _⟩, by repeat (first | exact Drawn0.refl _ | apply Drawn0.step)⟩
                  · rw [if_neg c21] at H
                    have c21b0 : ((IntKind.u64.wrap (x4_2 - (ji15))) == (ji18)) = false := beq_eq_false_iff_ne.mpr c21
                    have c21b1 : ((IntKind.u64.wrap (x4_2 - (ji15))) != (ji18)) = true := bne_iff_ne.mpr c21
                    have H' := Aside0.mk H
                    clear H
                    go_wp2
                    go_meet
                    case rel => exact ⟨_, (false), (by first | rfl | (simp; done) | (simp [*]; done)), H', ⟨by have := HJ2.out; first | omega | exact Nat.le_refl _⟩, by repeat (first | exact Drawn0.refl _ | apply Drawn0.step)⟩
              case rest =>
                clear HC19
                try clear c1
                try clear c2
                try clear c2b0
                try clear c2b1
                try clear p2
                try clear c3
                try clear c4
                try clear c4b0
                try clear c6
                try clear c6b0
                try clear p6
                try clear c8
                try clear c8b0
                try clear c8b1
                try clear c12
                try clear c12b0
                try clear c12b1
                try clear c14
                try clear c14b0
                try clear c17
                try clear c17b0
                try clear c17b1
                try clear c20
                try clear c20b0
                try clear c21
                try clear c21b0
                try clear c21b1
                try clear p2
                obtain ⟨kq, x64_18, rfl, HA, HJ18, ⟨mc18, rfl⟩⟩ := hcut
                cases kq with
                | zero => exact absurd HA.out (by simp [heronryref02_Of.j1])
                | succ kj18 =>
                  have H := HA.out
                  clear HA
                  simp only [heronryref02_Of.j1] at H
                  by_cases c22 : x64_18 = true
                  · subst c22
                    have H1 : (if (IntKind.u64.wrap (ji13 + 1)) = 9007199254740992 then (some (Go.bits .or .u64 x3_2 (IntKind.u64.wrap ((IntKind.u64.wrap ((IntKind.u64.wrap (wrap64 ((wrap64 (t263 - 1)) + 1023))) + 1)) * 4503599627370496)))) else ((heronryref02_fraction.f (IntKind.u64.wrap (ji13 + 1))).bind fun t265 => (some (Go.bits .or .u64 (Go.bits .or .u64 x3_2 (IntKind.u64.wrap ((IntKind.u64.wrap (wrap64 ((wrap64 (t263 - 1)) + 1023))) * 4503599627370496))) t265)))) = some r := by rw [if_pos rfl] at H; exact H
                    clear H
                    have H := H1
                    clear H1
                    by_cases c23 : (IntKind.u64.wrap (ji13 + 1)) = 9007199254740992
                    · rw [if_pos c23] at H
                      have c23b0 : ((IntKind.u64.wrap (ji13 + 1)) == 9007199254740992) = true := beq_iff_eq.mpr c23
                      have c23b1 : ((IntKind.u64.wrap (ji13 + 1)) != 9007199254740992) = false := bne_eq_false_iff_eq.mpr c23
                      clear c23
                      obtain rfl := Option.some.inj H
                      go_wp2
                      go_ret
                      exact ⟨by first | rfl | (simp; done) | (simp only [← hji11, ← hji13, ← hji15, ← hji16, ← hji18] <;> (first | rfl | simp)) | (simp [*]; done), by repeat (first | exact Drawn0.refl _ | apply Drawn0.step)⟩
                    · rw [if_neg c23] at H
                      have c23b0 : ((IntKind.u64.wrap (ji13 + 1)) == 9007199254740992) = false := beq_eq_false_iff_ne.mpr c23
                      have c23b1 : ((IntKind.u64.wrap (ji13 + 1)) != 9007199254740992) = true := bne_iff_ne.mpr c23
                      replace H := Option.bind_eq_some_iff.mp H
                      obtain ⟨t265, A240, H⟩ := H
                      replace H : (some (Go.bits .or .u64 (Go.bits .or .u64 x3_2 (IntKind.u64.wrap ((IntKind.u64.wrap (wrap64 ((wrap64 (t263 - 1)) + 1023))) * 4503599627370496))) t265)) = some r := H
                      have A24 := Aside0.mk A240
                      clear A240
                      obtain rfl := Option.some.inj H
                      go_wp2_with (first | ((with_reducible refine gate_callee (f := 48) rfl ?_); refine goesL_ (some 79) rfl rfl Try.func48 (by kernel_rfl) rfl #[.int .u64 (IntKind.u64.wrap (ji13 + 1))] rfl (by (try simp only [List.map_toArray, List.map_cons, List.map_nil]); first | done | (simp only [hji13]; rfl) | rfl | (simp only [List.length_drop, List.length_take]; rfl)) ?_; (with_reducible refine (heronryref02_fraction.calls (IntKind.u64.wrap (ji13 + 1)) t265 _ A24.out).mono ?_); rintro e w' ⟨rfl, ⟨nd, rfl⟩⟩; refine ⟨_, rfl, ?_⟩))
                      go_ret
                      exact ⟨by first | rfl | (simp; done) | (simp only [← hji11, ← hji13, ← hji15, ← hji16, ← hji18] <;> (first | rfl | simp)) | (simp [*]; done), by repeat (first | exact Drawn0.refl _ | apply Drawn0.step)⟩
                  · replace c22 := Bool.eq_false_iff.mpr c22
                    subst c22
                    have H1 : (if ji13 = 9007199254740992 then (some (Go.bits .or .u64 x3_2 (IntKind.u64.wrap ((IntKind.u64.wrap ((IntKind.u64.wrap (wrap64 ((wrap64 (t263 - 1)) + 1023))) + 1)) * 4503599627370496)))) else ((heronryref02_fraction.f ji13).bind fun t266 => (some (Go.bits .or .u64 (Go.bits .or .u64 x3_2 (IntKind.u64.wrap ((IntKind.u64.wrap (wrap64 ((wrap64 (t263 - 1)) + 1023))) * 4503599627370496))) t266)))) = some r := by rw [if_neg (show ¬ (false = true) by decide)] at H; exact H
                    clear H
                    have H := H1
                    clear H1
                    by_cases c25 : ji13 = 9007199254740992
                    · rw [if_pos c25] at H
                      have c25b0 : (ji13 == 9007199254740992) = true := beq_iff_eq.mpr c25
                      have c25b1 : (ji13 != 9007199254740992) = false := bne_eq_false_iff_eq.mpr c25
                      clear c25
                      obtain rfl := Option.some.inj H
                      go_wp2
                      go_ret
                      exact ⟨by first | rfl | (simp; done) | (simp only [← hji11, ← hji13, ← hji15, ← hji16, ← hji18] <;> (first | rfl | simp)) | (simp [*]; done), by repeat (first | exact Drawn0.refl _ | apply Drawn0.step)⟩
                    · rw [if_neg c25] at H
                      have c25b0 : (ji13 == 9007199254740992) = false := beq_eq_false_iff_ne.mpr c25
                      have c25b1 : (ji13 != 9007199254740992) = true := bne_iff_ne.mpr c25
                      replace H := Option.bind_eq_some_iff.mp H
                      obtain ⟨t266, A260, H⟩ := H
                      replace H : (some (Go.bits .or .u64 (Go.bits .or .u64 x3_2 (IntKind.u64.wrap ((IntKind.u64.wrap (wrap64 ((wrap64 (t263 - 1)) + 1023))) * 4503599627370496))) t266)) = some r := H
                      have A26 := Aside0.mk A260
                      clear A260
                      obtain rfl := Option.some.inj H
                      go_wp2_with (first | ((with_reducible refine gate_callee (f := 48) rfl ?_); refine goesL_ (some 79) rfl rfl Try.func48 (by kernel_rfl) rfl #[.int .u64 ji13] rfl (by (try simp only [List.map_toArray, List.map_cons, List.map_nil]); first | done | (simp only [hji13]; rfl) | rfl | (simp only [List.length_drop, List.length_take]; rfl)) ?_; (with_reducible refine (heronryref02_fraction.calls ji13 t266 _ A26.out).mono ?_); rintro e w' ⟨rfl, ⟨nd, rfl⟩⟩; refine ⟨_, rfl, ?_⟩))
                      go_ret
                      exact ⟨by first | rfl | (simp; done) | (simp only [← hji11, ← hji13, ← hji15, ← hji16, ← hji18] <;> (first | rfl | simp)) | (simp [*]; done), by repeat (first | exact Drawn0.refl _ | apply Drawn0.step)⟩
            · rw [if_neg c17] at H
              exact absurd H (by simp)
          · rw [if_neg c12] at H
            exact absurd H (by simp)

end Go.Proofs.Ytkcoabnghdlboaa.Q
