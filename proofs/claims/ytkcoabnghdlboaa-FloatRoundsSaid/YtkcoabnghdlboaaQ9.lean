-- Written by hprint.py (the kit's printer, with functions that are given). Lean checks it.
import Derived.Test.YtkcoabnghdlboaaQ0
import Derived.Test.YtkcoabnghdlboaaQ1
import Derived.Test.YtkcoabnghdlboaaQ7
import Derived.Test.YtkcoabnghdlboaaH6
namespace Go.Proofs.Ytkcoabnghdlboaa.Q
open Go.RowKit Go.Proofs.YtkcoabnghdlboaaW.PrintWords Go.Proofs.YtkcoabnghdlboaaW.PrintLast Go.Proofs.YtkcoabnghdlboaaW.PrintMore
attribute [local go_sem] max2_int min2_int max_two min_two max_three min_three max_four min_four   -- for this text's walks alone
set_option linter.unusedVariables false
set_option linter.unusedSimpArgs false

/-! ### heronrylaw02_FloatRounds: function 9 -/
mutual
def heronrylaw02_FloatRounds.j0 : Nat → Int → Bool → Int → Int → Int → Bool → Int → Bool → Int → Option (Bool)
  | 0, _, _, _, _, _, _, _, _, _ => none
  | k + 1, x0, x3, x4, x5, x7, x8, x9, x10, x11 => if x8 = true then (if x7 = x5 then (heronrylaw02_FloatRounds.j1 k x0 x3 x4 x5 x9 x10 x11 false) else (if x7 ≥ x0 then (heronrylaw02_FloatRounds.j1 k x0 x3 x4 x5 x9 x10 x11 (decide ((IntKind.u64.wrap ((IntKind.u64.wrap (x7)) - (IntKind.u64.wrap (x0)))) < x11))) else (heronrylaw02_FloatRounds.j1 k x0 x3 x4 x5 x9 x10 x11 false))) else (heronrylaw02_FloatRounds.j1 k x0 x3 x4 x5 x9 x10 x11 false)
def heronrylaw02_FloatRounds.j1 : Nat → Int → Bool → Int → Int → Int → Bool → Int → Bool → Option (Bool)
  | 0, _, _, _, _, _, _, _, _ => none
  | k + 1, x0, x3, x4, x5, x9, x10, x11, x78 => if x78 = true then (some false) else (if x10 = true then (if x9 = x5 then (if x3 = true then ((float_Less.f x4 0).bind fun t249 => (if ((decide (x0 < 0)) == t249) = true then (if x11 = 0 then (some true) else (if x0 > 9007199254740992 then (some true) else (some (decide (x0 < (-9007199254740992)))))) else (some false))) else (some false)) else (if x9 ≤ x0 then (if (IntKind.u64.wrap ((IntKind.u64.wrap (x0)) - (IntKind.u64.wrap (x9)))) < x11 then (some false) else (if x3 = true then ((float_Less.f x4 0).bind fun t250 => (if ((decide (x0 < 0)) == t250) = true then (if x11 = 0 then (some true) else (if x0 > 9007199254740992 then (some true) else (some (decide (x0 < (-9007199254740992)))))) else (some false))) else (some false))) else (if x3 = true then ((float_Less.f x4 0).bind fun t251 => (if ((decide (x0 < 0)) == t251) = true then (if x11 = 0 then (some true) else (if x0 > 9007199254740992 then (some true) else (some (decide (x0 < (-9007199254740992)))))) else (some false))) else (some false)))) else (if x3 = true then ((float_Less.f x4 0).bind fun t252 => (if ((decide (x0 < 0)) == t252) = true then (if x11 = 0 then (some true) else (if x0 > 9007199254740992 then (some true) else (some (decide (x0 < (-9007199254740992)))))) else (some false))) else (some false)))
end
def heronrylaw02_FloatRounds.f (k : Nat) (a0 : Int) : Option (Bool) := (heronrylaw02_awake.f).bind fun t235 => ((float_Of.f a0).bind fun t236 => ((float_Int.f t236).bind fun bt237 => (if bt237.2 = true then ((float_Next.f t236).bind fun t241 => ((float_Int.f t241).bind fun bt242 => ((float_Neg.f t236).bind fun t244 => ((float_Next.f t244).bind fun t245 => ((float_Neg.f t245).bind fun t246 => ((float_Int.f t246).bind fun bt247 => (if bt237.1 < a0 then (heronrylaw02_FloatRounds.j0 k a0 t235 t236 bt237.1 bt242.1 bt242.2 bt247.1 bt247.2 (IntKind.u64.wrap ((IntKind.u64.wrap (a0)) - (IntKind.u64.wrap (bt237.1))))) else (heronrylaw02_FloatRounds.j0 k a0 t235 t236 bt237.1 bt242.1 bt242.2 bt247.1 bt247.2 (IntKind.u64.wrap ((IntKind.u64.wrap (bt237.1)) - (IntKind.u64.wrap (a0)))))))))))) else (if t235 = true then (if a0 > 4611686018427387904 then ((float_Of.f 4611686018427387904).bind fun t239 => ((float_Less.f t239 t236).bind fun t240 => (some t240))) else (some false)) else (some false)))))
theorem heronrylaw02_FloatRounds.mono_l : ∀ k, (∀ y0 y1 y2 y3 y4 y5 y6 y7 y8, LeO (heronrylaw02_FloatRounds.j0 k y0 y1 y2 y3 y4 y5 y6 y7 y8) (heronrylaw02_FloatRounds.j0 (k + 1) y0 y1 y2 y3 y4 y5 y6 y7 y8)) ∧ (∀ y0 y1 y2 y3 y4 y5 y6 y7, LeO (heronrylaw02_FloatRounds.j1 k y0 y1 y2 y3 y4 y5 y6 y7) (heronrylaw02_FloatRounds.j1 (k + 1) y0 y1 y2 y3 y4 y5 y6 y7))
  | 0 => ⟨fun _ _ _ _ _ _ _ _ _ r h => by simp [heronrylaw02_FloatRounds.j0] at h, fun _ _ _ _ _ _ _ _ r h => by simp [heronrylaw02_FloatRounds.j1] at h⟩
  | k + 1 => by
    obtain ⟨ih0, ih1⟩ := heronrylaw02_FloatRounds.mono_l k
    refine ⟨?_, ?_⟩
    · intro y0 y1 y2 y3 y4 y5 y6 y7 y8
      unfold heronrylaw02_FloatRounds.j0
      repeat' first
      | (with_reducible exact ih0 _ _ _ _ _ _ _ _ _)
      | (with_reducible exact ih1 _ _ _ _ _ _ _ _)
      | (with_reducible exact LeO.refl _)
      | (with_reducible exact LeO.none _)
      | (with_reducible refine LeO.ite ?_ ?_)
      | (with_reducible refine LeO.bind ?_ (fun _ => ?_))
      | exact ih0 _ _ _ _ _ _ _ _ _
      | exact ih1 _ _ _ _ _ _ _ _
      | exact LeO.none _
      | refine LeO.ite ?_ ?_
      | refine LeO.bind ?_ (fun _ => ?_)
    · intro y0 y1 y2 y3 y4 y5 y6 y7
      unfold heronrylaw02_FloatRounds.j1
      repeat' first
      | (with_reducible exact ih0 _ _ _ _ _ _ _ _ _)
      | (with_reducible exact ih1 _ _ _ _ _ _ _ _)
      | (with_reducible exact LeO.refl _)
      | (with_reducible exact LeO.none _)
      | (with_reducible refine LeO.ite ?_ ?_)
      | (with_reducible refine LeO.bind ?_ (fun _ => ?_))
      | exact ih0 _ _ _ _ _ _ _ _ _
      | exact ih1 _ _ _ _ _ _ _ _
      | exact LeO.none _
      | refine LeO.ite ?_ ?_
      | refine LeO.bind ?_ (fun _ => ?_)
theorem heronrylaw02_FloatRounds.mono : ∀ a0 k, LeO (heronrylaw02_FloatRounds.f k a0) (heronrylaw02_FloatRounds.f (k + 1) a0) := by
  intro a0 k
  obtain ⟨ih0, ih1⟩ := heronrylaw02_FloatRounds.mono_l k
  unfold heronrylaw02_FloatRounds.f
  repeat' first
      | (with_reducible exact ih0 _ _ _ _ _ _ _ _ _)
      | (with_reducible exact ih1 _ _ _ _ _ _ _ _)
      | (with_reducible exact LeO.refl _)
      | (with_reducible exact LeO.none _)
      | (with_reducible refine LeO.ite ?_ ?_)
      | (with_reducible refine LeO.bind ?_ (fun _ => ?_))
      | exact ih0 _ _ _ _ _ _ _ _ _
      | exact ih1 _ _ _ _ _ _ _ _
      | exact LeO.none _
      | refine LeO.ite ?_ ?_
      | refine LeO.bind ?_ (fun _ => ?_)
set_option maxHeartbeats 8000000 in
set_option maxRecDepth 100000 in
theorem heronrylaw02_FloatRounds.calls (k : Nat) (a0 : Int) (r : Bool) (w : World) (hT_ : Aside0 (r = true)) (h : heronrylaw02_FloatRounds.f k a0 = some r) :
    Calls Try.prog 9 #[.int .i64 a0] w fun e w' => e = .returned (.bool r) ∧ Drawn0 w w' := by
  have H : ((heronrylaw02_awake.f).bind fun t235 => ((float_Of.f a0).bind fun t236 => ((float_Int.f t236).bind fun bt237 => (if bt237.2 = true then ((float_Next.f t236).bind fun t241 => ((float_Int.f t241).bind fun bt242 => ((float_Neg.f t236).bind fun t244 => ((float_Next.f t244).bind fun t245 => ((float_Neg.f t245).bind fun t246 => ((float_Int.f t246).bind fun bt247 => (if bt237.1 < a0 then (heronrylaw02_FloatRounds.j0 k a0 t235 t236 bt237.1 bt242.1 bt242.2 bt247.1 bt247.2 (IntKind.u64.wrap ((IntKind.u64.wrap (a0)) - (IntKind.u64.wrap (bt237.1))))) else (heronrylaw02_FloatRounds.j0 k a0 t235 t236 bt237.1 bt242.1 bt242.2 bt247.1 bt247.2 (IntKind.u64.wrap ((IntKind.u64.wrap (bt237.1)) - (IntKind.u64.wrap (a0)))))))))))) else (if t235 = true then (if a0 > 4611686018427387904 then ((float_Of.f 4611686018427387904).bind fun t239 => ((float_Less.f t239 t236).bind fun t240 => (some t240))) else (some false)) else (some false)))))) = some r := h
  clear h
  replace H := Option.bind_eq_some_iff.mp H
  obtain ⟨t235, A20, H⟩ := H
  replace H : ((float_Of.f a0).bind fun t236 => ((float_Int.f t236).bind fun bt237 => (if bt237.2 = true then ((float_Next.f t236).bind fun t241 => ((float_Int.f t241).bind fun bt242 => ((float_Neg.f t236).bind fun t244 => ((float_Next.f t244).bind fun t245 => ((float_Neg.f t245).bind fun t246 => ((float_Int.f t246).bind fun bt247 => (if bt237.1 < a0 then (heronrylaw02_FloatRounds.j0 k a0 t235 t236 bt237.1 bt242.1 bt242.2 bt247.1 bt247.2 (IntKind.u64.wrap ((IntKind.u64.wrap (a0)) - (IntKind.u64.wrap (bt237.1))))) else (heronrylaw02_FloatRounds.j0 k a0 t235 t236 bt237.1 bt242.1 bt242.2 bt247.1 bt247.2 (IntKind.u64.wrap ((IntKind.u64.wrap (bt237.1)) - (IntKind.u64.wrap (a0)))))))))))) else (if t235 = true then (if a0 > 4611686018427387904 then ((float_Of.f 4611686018427387904).bind fun t239 => ((float_Less.f t239 t236).bind fun t240 => (some t240))) else (some false)) else (some false))))) = some r := H
  have A2 := Aside0.mk A20
  clear A20
  replace H := Option.bind_eq_some_iff.mp H
  obtain ⟨t236, A30, H⟩ := H
  replace H : ((float_Int.f t236).bind fun bt237 => (if bt237.2 = true then ((float_Next.f t236).bind fun t241 => ((float_Int.f t241).bind fun bt242 => ((float_Neg.f t236).bind fun t244 => ((float_Next.f t244).bind fun t245 => ((float_Neg.f t245).bind fun t246 => ((float_Int.f t246).bind fun bt247 => (if bt237.1 < a0 then (heronrylaw02_FloatRounds.j0 k a0 t235 t236 bt237.1 bt242.1 bt242.2 bt247.1 bt247.2 (IntKind.u64.wrap ((IntKind.u64.wrap (a0)) - (IntKind.u64.wrap (bt237.1))))) else (heronrylaw02_FloatRounds.j0 k a0 t235 t236 bt237.1 bt242.1 bt242.2 bt247.1 bt247.2 (IntKind.u64.wrap ((IntKind.u64.wrap (bt237.1)) - (IntKind.u64.wrap (a0)))))))))))) else (if t235 = true then (if a0 > 4611686018427387904 then ((float_Of.f 4611686018427387904).bind fun t239 => ((float_Less.f t239 t236).bind fun t240 => (some t240))) else (some false)) else (some false)))) = some r := H
  have A3 := Aside0.mk A30
  clear A30
  replace H := Option.bind_eq_some_iff.mp H
  obtain ⟨⟨t237, t238⟩, A40, H⟩ := H
  replace H : (if t238 = true then ((float_Next.f t236).bind fun t241 => ((float_Int.f t241).bind fun bt242 => ((float_Neg.f t236).bind fun t244 => ((float_Next.f t244).bind fun t245 => ((float_Neg.f t245).bind fun t246 => ((float_Int.f t246).bind fun bt247 => (if t237 < a0 then (heronrylaw02_FloatRounds.j0 k a0 t235 t236 t237 bt242.1 bt242.2 bt247.1 bt247.2 (IntKind.u64.wrap ((IntKind.u64.wrap (a0)) - (IntKind.u64.wrap (t237))))) else (heronrylaw02_FloatRounds.j0 k a0 t235 t236 t237 bt242.1 bt242.2 bt247.1 bt247.2 (IntKind.u64.wrap ((IntKind.u64.wrap (t237)) - (IntKind.u64.wrap (a0)))))))))))) else (if t235 = true then (if a0 > 4611686018427387904 then ((float_Of.f 4611686018427387904).bind fun t239 => ((float_Less.f t239 t236).bind fun t240 => (some t240))) else (some false)) else (some false))) = some r := H
  have A4 := Aside0.mk A40
  clear A40
  by_cases c5 : t238 = true
  · subst c5
    have H1 : ((float_Next.f t236).bind fun t241 => ((float_Int.f t241).bind fun bt242 => ((float_Neg.f t236).bind fun t244 => ((float_Next.f t244).bind fun t245 => ((float_Neg.f t245).bind fun t246 => ((float_Int.f t246).bind fun bt247 => (if t237 < a0 then (heronrylaw02_FloatRounds.j0 k a0 t235 t236 t237 bt242.1 bt242.2 bt247.1 bt247.2 (IntKind.u64.wrap ((IntKind.u64.wrap (a0)) - (IntKind.u64.wrap (t237))))) else (heronrylaw02_FloatRounds.j0 k a0 t235 t236 t237 bt242.1 bt242.2 bt247.1 bt247.2 (IntKind.u64.wrap ((IntKind.u64.wrap (t237)) - (IntKind.u64.wrap (a0)))))))))))) = some r := by rw [if_pos rfl] at H; exact H
    clear H
    have H := H1
    clear H1
    replace H := Option.bind_eq_some_iff.mp H
    obtain ⟨t241, A60, H⟩ := H
    replace H : ((float_Int.f t241).bind fun bt242 => ((float_Neg.f t236).bind fun t244 => ((float_Next.f t244).bind fun t245 => ((float_Neg.f t245).bind fun t246 => ((float_Int.f t246).bind fun bt247 => (if t237 < a0 then (heronrylaw02_FloatRounds.j0 k a0 t235 t236 t237 bt242.1 bt242.2 bt247.1 bt247.2 (IntKind.u64.wrap ((IntKind.u64.wrap (a0)) - (IntKind.u64.wrap (t237))))) else (heronrylaw02_FloatRounds.j0 k a0 t235 t236 t237 bt242.1 bt242.2 bt247.1 bt247.2 (IntKind.u64.wrap ((IntKind.u64.wrap (t237)) - (IntKind.u64.wrap (a0))))))))))) = some r := H
    have A6 := Aside0.mk A60
    clear A60
    replace H := Option.bind_eq_some_iff.mp H
    obtain ⟨⟨t242, t243⟩, A70, H⟩ := H
    replace H : ((float_Neg.f t236).bind fun t244 => ((float_Next.f t244).bind fun t245 => ((float_Neg.f t245).bind fun t246 => ((float_Int.f t246).bind fun bt247 => (if t237 < a0 then (heronrylaw02_FloatRounds.j0 k a0 t235 t236 t237 t242 t243 bt247.1 bt247.2 (IntKind.u64.wrap ((IntKind.u64.wrap (a0)) - (IntKind.u64.wrap (t237))))) else (heronrylaw02_FloatRounds.j0 k a0 t235 t236 t237 t242 t243 bt247.1 bt247.2 (IntKind.u64.wrap ((IntKind.u64.wrap (t237)) - (IntKind.u64.wrap (a0)))))))))) = some r := H
    have A7 := Aside0.mk A70
    clear A70
    replace H := Option.bind_eq_some_iff.mp H
    obtain ⟨t244, A80, H⟩ := H
    replace H : ((float_Next.f t244).bind fun t245 => ((float_Neg.f t245).bind fun t246 => ((float_Int.f t246).bind fun bt247 => (if t237 < a0 then (heronrylaw02_FloatRounds.j0 k a0 t235 t236 t237 t242 t243 bt247.1 bt247.2 (IntKind.u64.wrap ((IntKind.u64.wrap (a0)) - (IntKind.u64.wrap (t237))))) else (heronrylaw02_FloatRounds.j0 k a0 t235 t236 t237 t242 t243 bt247.1 bt247.2 (IntKind.u64.wrap ((IntKind.u64.wrap (t237)) - (IntKind.u64.wrap (a0))))))))) = some r := H
    have A8 := Aside0.mk A80
    clear A80
    replace H := Option.bind_eq_some_iff.mp H
    obtain ⟨t245, A90, H⟩ := H
    replace H : ((float_Neg.f t245).bind fun t246 => ((float_Int.f t246).bind fun bt247 => (if t237 < a0 then (heronrylaw02_FloatRounds.j0 k a0 t235 t236 t237 t242 t243 bt247.1 bt247.2 (IntKind.u64.wrap ((IntKind.u64.wrap (a0)) - (IntKind.u64.wrap (t237))))) else (heronrylaw02_FloatRounds.j0 k a0 t235 t236 t237 t242 t243 bt247.1 bt247.2 (IntKind.u64.wrap ((IntKind.u64.wrap (t237)) - (IntKind.u64.wrap (a0)))))))) = some r := H
    have A9 := Aside0.mk A90
    clear A90
    replace H := Option.bind_eq_some_iff.mp H
    obtain ⟨t246, A100, H⟩ := H
    replace H : ((float_Int.f t246).bind fun bt247 => (if t237 < a0 then (heronrylaw02_FloatRounds.j0 k a0 t235 t236 t237 t242 t243 bt247.1 bt247.2 (IntKind.u64.wrap ((IntKind.u64.wrap (a0)) - (IntKind.u64.wrap (t237))))) else (heronrylaw02_FloatRounds.j0 k a0 t235 t236 t237 t242 t243 bt247.1 bt247.2 (IntKind.u64.wrap ((IntKind.u64.wrap (t237)) - (IntKind.u64.wrap (a0))))))) = some r := H
    have A10 := Aside0.mk A100
    clear A100
    replace H := Option.bind_eq_some_iff.mp H
    obtain ⟨⟨t247, t248⟩, A110, H⟩ := H
    replace H : (if t237 < a0 then (heronrylaw02_FloatRounds.j0 k a0 t235 t236 t237 t242 t243 t247 t248 (IntKind.u64.wrap ((IntKind.u64.wrap (a0)) - (IntKind.u64.wrap (t237))))) else (heronrylaw02_FloatRounds.j0 k a0 t235 t236 t237 t242 t243 t247 t248 (IntKind.u64.wrap ((IntKind.u64.wrap (t237)) - (IntKind.u64.wrap (a0)))))) = some r := H
    have A11 := Aside0.mk A110
    clear A110
    have HC12 := Aside0.mk H
    clear H
    go_enter Try.func9, Try.ntmps9
    go_upto_if 53 with (first | ((with_reducible refine gate_callee (f := 11) rfl ?_); refine goesL_ (some 12) rfl rfl Try.func11 (by kernel_rfl) rfl #[] rfl (by (try simp only [List.map_toArray, List.map_cons, List.map_nil]); first | done | rfl | (simp only [List.length_drop, List.length_take]; rfl)) ?_; (with_reducible refine (heronrylaw02_awake.calls  t235 _ A2.out).mono ?_); rintro e w' ⟨rfl, ⟨nd, rfl⟩⟩; refine ⟨_, rfl, ?_⟩) | ((with_reducible refine gate_callee (f := 26) rfl ?_); refine goesL_ (some 14) rfl rfl Try.func26 (by kernel_rfl) rfl #[.int .i64 a0] rfl (by (try simp only [List.map_toArray, List.map_cons, List.map_nil]); first | done | rfl | (simp only [List.length_drop, List.length_take]; rfl)) ?_; (with_reducible refine (float_Of.calls a0 t236 _ A3.out).mono ?_); rintro e w' ⟨rfl, ⟨nd, rfl⟩⟩; refine ⟨_, rfl, ?_⟩) | ((with_reducible refine gate_callee (f := 25) rfl ?_); refine goesL_ (some 17) rfl rfl Try.func25 (by kernel_rfl) rfl #[.int .u64 t236] rfl (by (try simp only [List.map_toArray, List.map_cons, List.map_nil]); first | done | rfl | (simp only [List.length_drop, List.length_take]; rfl)) ?_; (with_reducible refine (float_Int.calls t236 t237 true _ A4.out).mono ?_); rintro e w' ⟨rfl, ⟨nd, rfl⟩⟩; refine ⟨_, rfl, ?_⟩) | ((with_reducible refine gate_callee (f := 18) rfl ?_); refine goesL_ (some 34) rfl rfl Try.func18 (by kernel_rfl) rfl #[.int .u64 t236] rfl (by (try simp only [List.map_toArray, List.map_cons, List.map_nil]); first | done | rfl | (simp only [List.length_drop, List.length_take]; rfl)) ?_; (with_reducible refine (float_Next.calls t236 t241 _ A6.out).mono ?_); rintro e w' ⟨rfl, ⟨nd, rfl⟩⟩; refine ⟨_, rfl, ?_⟩) | ((with_reducible refine gate_callee (f := 25) rfl ?_); refine goesL_ (some 35) rfl rfl Try.func25 (by kernel_rfl) rfl #[.int .u64 t241] rfl (by (try simp only [List.map_toArray, List.map_cons, List.map_nil]); first | done | rfl | (simp only [List.length_drop, List.length_take]; rfl)) ?_; (with_reducible refine (float_Int.calls t241 t242 t243 _ A7.out).mono ?_); rintro e w' ⟨rfl, ⟨nd, rfl⟩⟩; refine ⟨_, rfl, ?_⟩) | ((with_reducible refine gate_callee (f := 27) rfl ?_); refine goesL_ (some 40) rfl rfl Try.func27 (by kernel_rfl) rfl #[.int .u64 t236] rfl (by (try simp only [List.map_toArray, List.map_cons, List.map_nil]); first | done | rfl | (simp only [List.length_drop, List.length_take]; rfl)) ?_; (with_reducible refine (float_Neg.calls t236 t244 _ A8.out).mono ?_); rintro e w' ⟨rfl, ⟨nd, rfl⟩⟩; refine ⟨_, rfl, ?_⟩) | ((with_reducible refine gate_callee (f := 18) rfl ?_); refine goesL_ (some 41) rfl rfl Try.func18 (by kernel_rfl) rfl #[.int .u64 t244] rfl (by (try simp only [List.map_toArray, List.map_cons, List.map_nil]); first | done | rfl | (simp only [List.length_drop, List.length_take]; rfl)) ?_; (with_reducible refine (float_Next.calls t244 t245 _ A9.out).mono ?_); rintro e w' ⟨rfl, ⟨nd, rfl⟩⟩; refine ⟨_, rfl, ?_⟩) | ((with_reducible refine gate_callee (f := 27) rfl ?_); refine goesL_ (some 42) rfl rfl Try.func27 (by kernel_rfl) rfl #[.int .u64 t245] rfl (by (try simp only [List.map_toArray, List.map_cons, List.map_nil]); first | done | rfl | (simp only [List.length_drop, List.length_take]; rfl)) ?_; (with_reducible refine (float_Neg.calls t245 t246 _ A10.out).mono ?_); rintro e w' ⟨rfl, ⟨nd, rfl⟩⟩; refine ⟨_, rfl, ?_⟩) | ((with_reducible refine gate_callee (f := 25) rfl ?_); refine goesL_ (some 43) rfl rfl Try.func25 (by kernel_rfl) rfl #[.int .u64 t246] rfl (by (try simp only [List.map_toArray, List.map_cons, List.map_nil]); first | done | rfl | (simp only [List.length_drop, List.length_take]; rfl)) ?_; (with_reducible refine (float_Int.calls t246 t247 t248 _ A11.out).mono ?_); rintro e w' ⟨rfl, ⟨nd, rfl⟩⟩; refine ⟨_, rfl, ?_⟩))
    (try simp only [Act.put, List.setIfInBounds_toArray, List.set_cons_zero, List.set_cons_succ])
    go_cut [11] (fun v11 wc => ∃ (kq : Nat) (x11_11 : Int), v11 = .int .u64 x11_11 ∧ Aside0 (heronrylaw02_FloatRounds.j0 kq a0 t235 t236 t237 t242 t243 t247 t248 x11_11 = some r) ∧ Aside0 (kq ≤ k) ∧ Drawn0 w wc)
    case first =>
      have H := HC12.out
      clear HC12
      by_cases c13 : t237 < a0
      · rw [if_pos c13] at H
        have c13b0 : decide (t237 < a0) = true := decide_eq_true c13
        clear c13
        (first | rw [c13b0] | (simp only [i64_w, i32_w]; rw [c13b0]) | skip)
        have H' := Aside0.mk H
        clear H
        go_wp2
        go_meet
        case rel => exact ⟨_, (IntKind.u64.wrap ((IntKind.u64.wrap (a0)) - (IntKind.u64.wrap (t237)))), (by first | rfl | (simp; done) | (simp [*]; done)), H', ⟨by first | omega | exact Nat.le_refl _⟩, by repeat (first | exact Drawn0.refl _ | apply Drawn0.step)⟩
      · rw [if_neg c13] at H
        have c13b0 : decide (t237 < a0) = false := decide_eq_false c13
        clear c13
        (first | rw [c13b0] | (simp only [i64_w, i32_w]; rw [c13b0]) | skip)
        have H' := Aside0.mk H
        clear H
        go_wp2
        go_meet
        case rel => exact ⟨_, (IntKind.u64.wrap ((IntKind.u64.wrap (t237)) - (IntKind.u64.wrap (a0)))), (by first | rfl | (simp; done) | (simp [*]; done)), H', ⟨by first | omega | exact Nat.le_refl _⟩, by repeat (first | exact Drawn0.refl _ | apply Drawn0.step)⟩
    case rest =>
      clear HC12
      try clear c1
      try clear c2
      try clear p2
      try clear c5
      try clear c9
      try clear c11
      try clear c13
      try clear c13b0
      obtain ⟨kq, x11_11, rfl, HA, HJ11, ⟨mc11, rfl⟩⟩ := hcut
      cases kq with
      | zero => exact absurd HA.out (by simp [heronrylaw02_FloatRounds.j0])
      | succ kj11 =>
        have H := HA.out
        clear HA
        simp only [heronrylaw02_FloatRounds.j0] at H
        have HC14 := Aside0.mk H
        clear H
        go_upto_region 11 with (fail)
        go_cut [78] (fun v78 wc => ∃ (kq : Nat) (x78_13 : Bool), v78 = .bool x78_13 ∧ Aside0 (heronrylaw02_FloatRounds.j1 kq a0 t235 t236 t237 t247 t248 x11_11 x78_13 = some r) ∧ Aside0 (kq ≤ kj11) ∧ Drawn0 w wc)
        case first =>
          have H := HC14.out
          clear HC14
          by_cases c15 : t243 = true
          · subst c15
            have H1 : (if t242 = t237 then (heronrylaw02_FloatRounds.j1 kj11 a0 t235 t236 t237 t247 t248 x11_11 false) else (if t242 ≥ a0 then (heronrylaw02_FloatRounds.j1 kj11 a0 t235 t236 t237 t247 t248 x11_11 (decide ((IntKind.u64.wrap ((IntKind.u64.wrap (t242)) - (IntKind.u64.wrap (a0)))) < x11_11))) else (heronrylaw02_FloatRounds.j1 kj11 a0 t235 t236 t237 t247 t248 x11_11 false))) = some r := by rw [if_pos rfl] at H; exact H
            clear H
            have H := H1
            clear H1
            by_cases c16 : t242 = t237
            · rw [if_pos c16] at H
              have c16b0 : (t242 == t237) = true := beq_iff_eq.mpr c16
              have c16b1 : (t242 != t237) = false := bne_eq_false_iff_eq.mpr c16
              clear c16
              (first | rw [c16b0] | (simp only [i64_w, i32_w]; rw [c16b0]) | skip)
              have H' := Aside0.mk H
              clear H
              go_wp2
              go_meet
              case rel => exact ⟨_, (false), (by first | rfl | (simp; done) | (simp [*]; done)), H', ⟨by have := HJ11.out; first | omega | exact Nat.le_refl _⟩, by repeat (first | exact Drawn0.refl _ | apply Drawn0.step)⟩
            · rw [if_neg c16] at H
              have c16b0 : (t242 == t237) = false := beq_eq_false_iff_ne.mpr c16
              have c16b1 : (t242 != t237) = true := bne_iff_ne.mpr c16
              (first | rw [c16b0] | (simp only [i64_w, i32_w]; rw [c16b0]) | skip)
              by_cases c17 : t242 ≥ a0
              · rw [if_pos c17] at H
                have c17b0 : decide (a0 ≤ t242) = true := decide_eq_true c17
                clear c17
                have H' := Aside0.mk H
                clear H
                go_wp2
                go_meet
                case rel => exact ⟨_, (decide ((IntKind.u64.wrap ((IntKind.u64.wrap (t242)) - (IntKind.u64.wrap (a0)))) < x11_11)), (by first | rfl | (simp; done) | (simp [*]; done)), H', ⟨by have := HJ11.out; first | omega | exact Nat.le_refl _⟩, by repeat (first | exact Drawn0.refl _ | apply Drawn0.step)⟩
              · rw [if_neg c17] at H
                have c17b0 : decide (a0 ≤ t242) = false := decide_eq_false c17
                clear c17
                have H' := Aside0.mk H
                clear H
                go_wp2
                go_meet
                case rel => exact ⟨_, (false), (by first | rfl | (simp; done) | (simp [*]; done)), H', ⟨by have := HJ11.out; first | omega | exact Nat.le_refl _⟩, by repeat (first | exact Drawn0.refl _ | apply Drawn0.step)⟩
          · replace c15 := Bool.eq_false_iff.mpr c15
            subst c15
            have H1 : (heronrylaw02_FloatRounds.j1 kj11 a0 t235 t236 t237 t247 t248 x11_11 false) = some r := by rw [if_neg (show ¬ (false = true) by decide)] at H; exact H
            clear H
            have H := H1
            clear H1
            have H' := Aside0.mk H
            clear H
            go_wp2
            go_meet
            case rel => exact ⟨_, (false), (by first | rfl | (simp; done) | (simp [*]; done)), H', ⟨by have := HJ11.out; first | omega | exact Nat.le_refl _⟩, by repeat (first | exact Drawn0.refl _ | apply Drawn0.step)⟩
        case rest =>
          clear HC14
          try clear c1
          try clear c2
          try clear p2
          try clear c5
          try clear c9
          try clear c11
          try clear c13
          try clear c13b0
          try clear c15
          try clear c16
          try clear c16b0
          try clear c16b1
          try clear c17
          try clear c17b0
          try clear p2
          obtain ⟨kq, x78_13, rfl, HA, HJ13, ⟨mc13, rfl⟩⟩ := hcut
          cases kq with
          | zero => exact absurd HA.out (by simp [heronrylaw02_FloatRounds.j1])
          | succ kj13 =>
            have H := HA.out
            clear HA
            simp only [heronrylaw02_FloatRounds.j1] at H
            by_cases c18 : x78_13 = true
            · subst c18
              have H1 : (some false) = some r := by rw [if_pos rfl] at H; exact H
              clear H
              have H := H1
              clear H1
              obtain rfl := Option.some.inj H
              exact absurd hT_.out (by decide)
            · replace c18 := Bool.eq_false_iff.mpr c18
              subst c18
              have H1 : (if t248 = true then (if t247 = t237 then (if t235 = true then ((float_Less.f t236 0).bind fun t249 => (if ((decide (a0 < 0)) == t249) = true then (if x11_11 = 0 then (some true) else (if a0 > 9007199254740992 then (some true) else (some (decide (a0 < (-9007199254740992)))))) else (some false))) else (some false)) else (if t247 ≤ a0 then (if (IntKind.u64.wrap ((IntKind.u64.wrap (a0)) - (IntKind.u64.wrap (t247)))) < x11_11 then (some false) else (if t235 = true then ((float_Less.f t236 0).bind fun t250 => (if ((decide (a0 < 0)) == t250) = true then (if x11_11 = 0 then (some true) else (if a0 > 9007199254740992 then (some true) else (some (decide (a0 < (-9007199254740992)))))) else (some false))) else (some false))) else (if t235 = true then ((float_Less.f t236 0).bind fun t251 => (if ((decide (a0 < 0)) == t251) = true then (if x11_11 = 0 then (some true) else (if a0 > 9007199254740992 then (some true) else (some (decide (a0 < (-9007199254740992)))))) else (some false))) else (some false)))) else (if t235 = true then ((float_Less.f t236 0).bind fun t252 => (if ((decide (a0 < 0)) == t252) = true then (if x11_11 = 0 then (some true) else (if a0 > 9007199254740992 then (some true) else (some (decide (a0 < (-9007199254740992)))))) else (some false))) else (some false))) = some r := by rw [if_neg (show ¬ (false = true) by decide)] at H; exact H
              clear H
              have H := H1
              clear H1
              by_cases c19 : t248 = true
              · subst c19
                have H1 : (if t247 = t237 then (if t235 = true then ((float_Less.f t236 0).bind fun t249 => (if ((decide (a0 < 0)) == t249) = true then (if x11_11 = 0 then (some true) else (if a0 > 9007199254740992 then (some true) else (some (decide (a0 < (-9007199254740992)))))) else (some false))) else (some false)) else (if t247 ≤ a0 then (if (IntKind.u64.wrap ((IntKind.u64.wrap (a0)) - (IntKind.u64.wrap (t247)))) < x11_11 then (some false) else (if t235 = true then ((float_Less.f t236 0).bind fun t250 => (if ((decide (a0 < 0)) == t250) = true then (if x11_11 = 0 then (some true) else (if a0 > 9007199254740992 then (some true) else (some (decide (a0 < (-9007199254740992)))))) else (some false))) else (some false))) else (if t235 = true then ((float_Less.f t236 0).bind fun t251 => (if ((decide (a0 < 0)) == t251) = true then (if x11_11 = 0 then (some true) else (if a0 > 9007199254740992 then (some true) else (some (decide (a0 < (-9007199254740992)))))) else (some false))) else (some false)))) = some r := by rw [if_pos rfl] at H; exact H
                clear H
                have H := H1
                clear H1
                by_cases c20 : t247 = t237
                · rw [if_pos c20] at H
                  have c20b0 : (t247 == t237) = true := beq_iff_eq.mpr c20
                  have c20b1 : (t247 != t237) = false := bne_eq_false_iff_eq.mpr c20
                  clear c20
                  by_cases c21 : t235 = true
                  · subst c21
                    have H1 : ((float_Less.f t236 0).bind fun t249 => (if ((decide (a0 < 0)) == t249) = true then (if x11_11 = 0 then (some true) else (if a0 > 9007199254740992 then (some true) else (some (decide (a0 < (-9007199254740992)))))) else (some false))) = some r := by rw [if_pos rfl] at H; exact H
                    clear H
                    have H := H1
                    clear H1
                    replace H := Option.bind_eq_some_iff.mp H
                    obtain ⟨t249, A220, H⟩ := H
                    replace H : (if ((decide (a0 < 0)) == t249) = true then (if x11_11 = 0 then (some true) else (if a0 > 9007199254740992 then (some true) else (some (decide (a0 < (-9007199254740992)))))) else (some false)) = some r := H
                    have A22 := Aside0.mk A220
                    clear A220
                    by_cases c23 : ((decide (a0 < 0)) == t249) = true
                    · rw [if_pos c23] at H
                      have c23b0 : ((decide (a0 < 0)) == t249) = true := c23
                      (try (have c23b1 : decide ((decide (a0 < 0)) = t249) = true := by simpa using c23))
                      (try (have c23b2 : ((decide (a0 < 0)) == t249) = true := by simpa using c23))
                      clear c23
                      by_cases c24 : x11_11 = 0
                      · rw [if_pos c24] at H
                        have c24b0 : (x11_11 == 0) = true := beq_iff_eq.mpr c24
                        have c24b1 : (x11_11 != 0) = false := bne_eq_false_iff_eq.mpr c24
                        clear c24
                        obtain rfl := Option.some.inj H
                        go_wp2_with (first | (go_at_call 15; (with_reducible refine (float_Less.calls t236 0 t249 _ A22.out).mono ?_); rintro e w' ⟨rfl, ⟨nd, rfl⟩⟩))
                        go_ret
                        exact ⟨by first | rfl | (simp; done) | (simp [*]; done), by repeat (first | exact Drawn0.refl _ | apply Drawn0.step)⟩
                      · rw [if_neg c24] at H
                        have c24b0 : (x11_11 == 0) = false := beq_eq_false_iff_ne.mpr c24
                        have c24b1 : (x11_11 != 0) = true := bne_iff_ne.mpr c24
                        by_cases c25 : a0 > 9007199254740992
                        · rw [if_pos c25] at H
                          have c25b0 : decide (9007199254740992 < a0) = true := decide_eq_true c25
                          clear c25
                          obtain rfl := Option.some.inj H
                          go_wp2_with (first | (go_at_call 15; (with_reducible refine (float_Less.calls t236 0 t249 _ A22.out).mono ?_); rintro e w' ⟨rfl, ⟨nd, rfl⟩⟩))
                          go_ret
                          exact ⟨by first | rfl | (simp; done) | (simp [*]; done), by repeat (first | exact Drawn0.refl _ | apply Drawn0.step)⟩
                        · rw [if_neg c25] at H
                          have c25b0 : decide (9007199254740992 < a0) = false := decide_eq_false c25
                          clear c25
                          obtain rfl := Option.some.inj H
                          go_wp2_with (first | (go_at_call 15; (with_reducible refine (float_Less.calls t236 0 t249 _ A22.out).mono ?_); rintro e w' ⟨rfl, ⟨nd, rfl⟩⟩))
                          go_ret
                          exact ⟨by first | rfl | (simp; done) | (simp [*]; done), by repeat (first | exact Drawn0.refl _ | apply Drawn0.step)⟩
                    · rw [if_neg c23] at H
                      have c23b0 : ((decide (a0 < 0)) == t249) = false := by simpa using c23
                      (try (have c23b1 : decide ((decide (a0 < 0)) = t249) = false := by simpa using c23))
                      (try (have c23b2 : ((decide (a0 < 0)) == t249) = false := by simpa using c23))
                      (try (have c23b3 : ¬ ((decide (a0 < 0)) = t249) := by simpa using c23))
                      clear c23
                      obtain rfl := Option.some.inj H
                      exact absurd hT_.out (by decide)
                  · replace c21 := Bool.eq_false_iff.mpr c21
                    subst c21
                    have H1 : (some false) = some r := by rw [if_neg (show ¬ (false = true) by decide)] at H; exact H
                    clear H
                    have H := H1
                    clear H1
                    obtain rfl := Option.some.inj H
                    exact absurd hT_.out (by decide)
                · rw [if_neg c20] at H
                  have c20b0 : (t247 == t237) = false := beq_eq_false_iff_ne.mpr c20
                  have c20b1 : (t247 != t237) = true := bne_iff_ne.mpr c20
                  by_cases c26 : t247 ≤ a0
                  · rw [if_pos c26] at H
                    have c26b0 : decide (t247 ≤ a0) = true := decide_eq_true c26
                    clear c26
                    by_cases c27 : (IntKind.u64.wrap ((IntKind.u64.wrap (a0)) - (IntKind.u64.wrap (t247)))) < x11_11
                    · rw [if_pos c27] at H
                      have c27b0 : decide ((IntKind.u64.wrap ((IntKind.u64.wrap (a0)) - (IntKind.u64.wrap (t247)))) < x11_11) = true := decide_eq_true c27
                      clear c27
                      obtain rfl := Option.some.inj H
                      exact absurd hT_.out (by decide)
                    · rw [if_neg c27] at H
                      have c27b0 : decide ((IntKind.u64.wrap ((IntKind.u64.wrap (a0)) - (IntKind.u64.wrap (t247)))) < x11_11) = false := decide_eq_false c27
                      clear c27
                      by_cases c28 : t235 = true
                      · subst c28
                        have H1 : ((float_Less.f t236 0).bind fun t250 => (if ((decide (a0 < 0)) == t250) = true then (if x11_11 = 0 then (some true) else (if a0 > 9007199254740992 then (some true) else (some (decide (a0 < (-9007199254740992)))))) else (some false))) = some r := by rw [if_pos rfl] at H; exact H
                        clear H
                        have H := H1
                        clear H1
                        replace H := Option.bind_eq_some_iff.mp H
                        obtain ⟨t250, A290, H⟩ := H
                        replace H : (if ((decide (a0 < 0)) == t250) = true then (if x11_11 = 0 then (some true) else (if a0 > 9007199254740992 then (some true) else (some (decide (a0 < (-9007199254740992)))))) else (some false)) = some r := H
                        have A29 := Aside0.mk A290
                        clear A290
                        by_cases c30 : ((decide (a0 < 0)) == t250) = true
                        · rw [if_pos c30] at H
                          have c30b0 : ((decide (a0 < 0)) == t250) = true := c30
                          (try (have c30b1 : decide ((decide (a0 < 0)) = t250) = true := by simpa using c30))
                          (try (have c30b2 : ((decide (a0 < 0)) == t250) = true := by simpa using c30))
                          clear c30
                          by_cases c31 : x11_11 = 0
                          · rw [if_pos c31] at H
                            have c31b0 : (x11_11 == 0) = true := beq_iff_eq.mpr c31
                            have c31b1 : (x11_11 != 0) = false := bne_eq_false_iff_eq.mpr c31
                            clear c31
                            obtain rfl := Option.some.inj H
                            go_wp2_with (first | (go_at_call 15; (with_reducible refine (float_Less.calls t236 0 t250 _ A29.out).mono ?_); rintro e w' ⟨rfl, ⟨nd, rfl⟩⟩))
                            go_ret
                            exact ⟨by first | rfl | (simp; done) | (simp [*]; done), by repeat (first | exact Drawn0.refl _ | apply Drawn0.step)⟩
                          · rw [if_neg c31] at H
                            have c31b0 : (x11_11 == 0) = false := beq_eq_false_iff_ne.mpr c31
                            have c31b1 : (x11_11 != 0) = true := bne_iff_ne.mpr c31
                            by_cases c32 : a0 > 9007199254740992
                            · rw [if_pos c32] at H
                              have c32b0 : decide (9007199254740992 < a0) = true := decide_eq_true c32
                              clear c32
                              obtain rfl := Option.some.inj H
                              go_wp2_with (first | (go_at_call 15; (with_reducible refine (float_Less.calls t236 0 t250 _ A29.out).mono ?_); rintro e w' ⟨rfl, ⟨nd, rfl⟩⟩))
                              go_ret
                              exact ⟨by first | rfl | (simp; done) | (simp [*]; done), by repeat (first | exact Drawn0.refl _ | apply Drawn0.step)⟩
                            · rw [if_neg c32] at H
                              have c32b0 : decide (9007199254740992 < a0) = false := decide_eq_false c32
                              clear c32
                              obtain rfl := Option.some.inj H
                              go_wp2_with (first | (go_at_call 15; (with_reducible refine (float_Less.calls t236 0 t250 _ A29.out).mono ?_); rintro e w' ⟨rfl, ⟨nd, rfl⟩⟩))
                              go_ret
                              exact ⟨by first | rfl | (simp; done) | (simp [*]; done), by repeat (first | exact Drawn0.refl _ | apply Drawn0.step)⟩
                        · rw [if_neg c30] at H
                          have c30b0 : ((decide (a0 < 0)) == t250) = false := by simpa using c30
                          (try (have c30b1 : decide ((decide (a0 < 0)) = t250) = false := by simpa using c30))
                          (try (have c30b2 : ((decide (a0 < 0)) == t250) = false := by simpa using c30))
                          (try (have c30b3 : ¬ ((decide (a0 < 0)) = t250) := by simpa using c30))
                          clear c30
                          obtain rfl := Option.some.inj H
                          exact absurd hT_.out (by decide)
                      · replace c28 := Bool.eq_false_iff.mpr c28
                        subst c28
                        have H1 : (some false) = some r := by rw [if_neg (show ¬ (false = true) by decide)] at H; exact H
                        clear H
                        have H := H1
                        clear H1
                        obtain rfl := Option.some.inj H
                        exact absurd hT_.out (by decide)
                  · rw [if_neg c26] at H
                    have c26b0 : decide (t247 ≤ a0) = false := decide_eq_false c26
                    clear c26
                    by_cases c33 : t235 = true
                    · subst c33
                      have H1 : ((float_Less.f t236 0).bind fun t251 => (if ((decide (a0 < 0)) == t251) = true then (if x11_11 = 0 then (some true) else (if a0 > 9007199254740992 then (some true) else (some (decide (a0 < (-9007199254740992)))))) else (some false))) = some r := by rw [if_pos rfl] at H; exact H
                      clear H
                      have H := H1
                      clear H1
                      replace H := Option.bind_eq_some_iff.mp H
                      obtain ⟨t251, A340, H⟩ := H
                      replace H : (if ((decide (a0 < 0)) == t251) = true then (if x11_11 = 0 then (some true) else (if a0 > 9007199254740992 then (some true) else (some (decide (a0 < (-9007199254740992)))))) else (some false)) = some r := H
                      have A34 := Aside0.mk A340
                      clear A340
                      by_cases c35 : ((decide (a0 < 0)) == t251) = true
                      · rw [if_pos c35] at H
                        have c35b0 : ((decide (a0 < 0)) == t251) = true := c35
                        (try (have c35b1 : decide ((decide (a0 < 0)) = t251) = true := by simpa using c35))
                        (try (have c35b2 : ((decide (a0 < 0)) == t251) = true := by simpa using c35))
                        clear c35
                        by_cases c36 : x11_11 = 0
                        · rw [if_pos c36] at H
                          have c36b0 : (x11_11 == 0) = true := beq_iff_eq.mpr c36
                          have c36b1 : (x11_11 != 0) = false := bne_eq_false_iff_eq.mpr c36
                          clear c36
                          obtain rfl := Option.some.inj H
                          go_wp2_with (first | (go_at_call 15; (with_reducible refine (float_Less.calls t236 0 t251 _ A34.out).mono ?_); rintro e w' ⟨rfl, ⟨nd, rfl⟩⟩))
                          go_ret
                          exact ⟨by first | rfl | (simp; done) | (simp [*]; done), by repeat (first | exact Drawn0.refl _ | apply Drawn0.step)⟩
                        · rw [if_neg c36] at H
                          have c36b0 : (x11_11 == 0) = false := beq_eq_false_iff_ne.mpr c36
                          have c36b1 : (x11_11 != 0) = true := bne_iff_ne.mpr c36
                          by_cases c37 : a0 > 9007199254740992
                          · rw [if_pos c37] at H
                            have c37b0 : decide (9007199254740992 < a0) = true := decide_eq_true c37
                            clear c37
                            obtain rfl := Option.some.inj H
                            go_wp2_with (first | (go_at_call 15; (with_reducible refine (float_Less.calls t236 0 t251 _ A34.out).mono ?_); rintro e w' ⟨rfl, ⟨nd, rfl⟩⟩))
                            go_ret
                            exact ⟨by first | rfl | (simp; done) | (simp [*]; done), by repeat (first | exact Drawn0.refl _ | apply Drawn0.step)⟩
                          · rw [if_neg c37] at H
                            have c37b0 : decide (9007199254740992 < a0) = false := decide_eq_false c37
                            clear c37
                            obtain rfl := Option.some.inj H
                            go_wp2_with (first | (go_at_call 15; (with_reducible refine (float_Less.calls t236 0 t251 _ A34.out).mono ?_); rintro e w' ⟨rfl, ⟨nd, rfl⟩⟩))
                            go_ret
                            exact ⟨by first | rfl | (simp; done) | (simp [*]; done), by repeat (first | exact Drawn0.refl _ | apply Drawn0.step)⟩
                      · rw [if_neg c35] at H
                        have c35b0 : ((decide (a0 < 0)) == t251) = false := by simpa using c35
                        (try (have c35b1 : decide ((decide (a0 < 0)) = t251) = false := by simpa using c35))
                        (try (have c35b2 : ((decide (a0 < 0)) == t251) = false := by simpa using c35))
                        (try (have c35b3 : ¬ ((decide (a0 < 0)) = t251) := by simpa using c35))
                        clear c35
                        obtain rfl := Option.some.inj H
                        exact absurd hT_.out (by decide)
                    · replace c33 := Bool.eq_false_iff.mpr c33
                      subst c33
                      have H1 : (some false) = some r := by rw [if_neg (show ¬ (false = true) by decide)] at H; exact H
                      clear H
                      have H := H1
                      clear H1
                      obtain rfl := Option.some.inj H
                      exact absurd hT_.out (by decide)
              · replace c19 := Bool.eq_false_iff.mpr c19
                subst c19
                have H1 : (if t235 = true then ((float_Less.f t236 0).bind fun t252 => (if ((decide (a0 < 0)) == t252) = true then (if x11_11 = 0 then (some true) else (if a0 > 9007199254740992 then (some true) else (some (decide (a0 < (-9007199254740992)))))) else (some false))) else (some false)) = some r := by rw [if_neg (show ¬ (false = true) by decide)] at H; exact H
                clear H
                have H := H1
                clear H1
                by_cases c38 : t235 = true
                · subst c38
                  have H1 : ((float_Less.f t236 0).bind fun t252 => (if ((decide (a0 < 0)) == t252) = true then (if x11_11 = 0 then (some true) else (if a0 > 9007199254740992 then (some true) else (some (decide (a0 < (-9007199254740992)))))) else (some false))) = some r := by rw [if_pos rfl] at H; exact H
                  clear H
                  have H := H1
                  clear H1
                  replace H := Option.bind_eq_some_iff.mp H
                  obtain ⟨t252, A390, H⟩ := H
                  replace H : (if ((decide (a0 < 0)) == t252) = true then (if x11_11 = 0 then (some true) else (if a0 > 9007199254740992 then (some true) else (some (decide (a0 < (-9007199254740992)))))) else (some false)) = some r := H
                  have A39 := Aside0.mk A390
                  clear A390
                  by_cases c40 : ((decide (a0 < 0)) == t252) = true
                  · rw [if_pos c40] at H
                    have c40b0 : ((decide (a0 < 0)) == t252) = true := c40
                    (try (have c40b1 : decide ((decide (a0 < 0)) = t252) = true := by simpa using c40))
                    (try (have c40b2 : ((decide (a0 < 0)) == t252) = true := by simpa using c40))
                    clear c40
                    by_cases c41 : x11_11 = 0
                    · rw [if_pos c41] at H
                      have c41b0 : (x11_11 == 0) = true := beq_iff_eq.mpr c41
                      have c41b1 : (x11_11 != 0) = false := bne_eq_false_iff_eq.mpr c41
                      clear c41
                      obtain rfl := Option.some.inj H
                      go_wp2_with (first | (go_at_call 15; (with_reducible refine (float_Less.calls t236 0 t252 _ A39.out).mono ?_); rintro e w' ⟨rfl, ⟨nd, rfl⟩⟩))
                      go_ret
                      exact ⟨by first | rfl | (simp; done) | (simp [*]; done), by repeat (first | exact Drawn0.refl _ | apply Drawn0.step)⟩
                    · rw [if_neg c41] at H
                      have c41b0 : (x11_11 == 0) = false := beq_eq_false_iff_ne.mpr c41
                      have c41b1 : (x11_11 != 0) = true := bne_iff_ne.mpr c41
                      by_cases c42 : a0 > 9007199254740992
                      · rw [if_pos c42] at H
                        have c42b0 : decide (9007199254740992 < a0) = true := decide_eq_true c42
                        clear c42
                        obtain rfl := Option.some.inj H
                        go_wp2_with (first | (go_at_call 15; (with_reducible refine (float_Less.calls t236 0 t252 _ A39.out).mono ?_); rintro e w' ⟨rfl, ⟨nd, rfl⟩⟩))
                        go_ret
                        exact ⟨by first | rfl | (simp; done) | (simp [*]; done), by repeat (first | exact Drawn0.refl _ | apply Drawn0.step)⟩
                      · rw [if_neg c42] at H
                        have c42b0 : decide (9007199254740992 < a0) = false := decide_eq_false c42
                        clear c42
                        obtain rfl := Option.some.inj H
                        go_wp2_with (first | (go_at_call 15; (with_reducible refine (float_Less.calls t236 0 t252 _ A39.out).mono ?_); rintro e w' ⟨rfl, ⟨nd, rfl⟩⟩))
                        go_ret
                        exact ⟨by first | rfl | (simp; done) | (simp [*]; done), by repeat (first | exact Drawn0.refl _ | apply Drawn0.step)⟩
                  · rw [if_neg c40] at H
                    have c40b0 : ((decide (a0 < 0)) == t252) = false := by simpa using c40
                    (try (have c40b1 : decide ((decide (a0 < 0)) = t252) = false := by simpa using c40))
                    (try (have c40b2 : ((decide (a0 < 0)) == t252) = false := by simpa using c40))
                    (try (have c40b3 : ¬ ((decide (a0 < 0)) = t252) := by simpa using c40))
                    clear c40
                    obtain rfl := Option.some.inj H
                    exact absurd hT_.out (by decide)
                · replace c38 := Bool.eq_false_iff.mpr c38
                  subst c38
                  have H1 : (some false) = some r := by rw [if_neg (show ¬ (false = true) by decide)] at H; exact H
                  clear H
                  have H := H1
                  clear H1
                  obtain rfl := Option.some.inj H
                  exact absurd hT_.out (by decide)
  · replace c5 := Bool.eq_false_iff.mpr c5
    subst c5
    have H1 : (if t235 = true then (if a0 > 4611686018427387904 then ((float_Of.f 4611686018427387904).bind fun t239 => ((float_Less.f t239 t236).bind fun t240 => (some t240))) else (some false)) else (some false)) = some r := by rw [if_neg (show ¬ (false = true) by decide)] at H; exact H
    clear H
    have H := H1
    clear H1
    by_cases c43 : t235 = true
    · subst c43
      have H1 : (if a0 > 4611686018427387904 then ((float_Of.f 4611686018427387904).bind fun t239 => ((float_Less.f t239 t236).bind fun t240 => (some t240))) else (some false)) = some r := by rw [if_pos rfl] at H; exact H
      clear H
      have H := H1
      clear H1
      by_cases c44 : a0 > 4611686018427387904
      · rw [if_pos c44] at H
        have c44b0 : decide (4611686018427387904 < a0) = true := decide_eq_true c44
        clear c44
        replace H := Option.bind_eq_some_iff.mp H
        obtain ⟨t239, A450, H⟩ := H
        replace H : ((float_Less.f t239 t236).bind fun t240 => (some t240)) = some r := H
        have A45 := Aside0.mk A450
        clear A450
        replace H := Option.bind_eq_some_iff.mp H
        obtain ⟨t240, A460, H⟩ := H
        replace H : (some t240) = some r := H
        have A46 := Aside0.mk A460
        clear A460
        obtain rfl := Option.some.inj H
        go_enter Try.func9, Try.ntmps9
        go_wp2_with (first | ((with_reducible refine gate_callee (f := 11) rfl ?_); refine goesL_ (some 12) rfl rfl Try.func11 (by kernel_rfl) rfl #[] rfl (by (try simp only [List.map_toArray, List.map_cons, List.map_nil]); first | done | rfl | (simp only [List.length_drop, List.length_take]; rfl)) ?_; (with_reducible refine (heronrylaw02_awake.calls  true _ A2.out).mono ?_); rintro e w' ⟨rfl, ⟨nd, rfl⟩⟩; refine ⟨_, rfl, ?_⟩) | ((with_reducible refine gate_callee (f := 26) rfl ?_); refine goesL_ (some 14) rfl rfl Try.func26 (by kernel_rfl) rfl #[.int .i64 a0] rfl (by (try simp only [List.map_toArray, List.map_cons, List.map_nil]); first | done | rfl | (simp only [List.length_drop, List.length_take]; rfl)) ?_; (with_reducible refine (float_Of.calls a0 t236 _ A3.out).mono ?_); rintro e w' ⟨rfl, ⟨nd, rfl⟩⟩; refine ⟨_, rfl, ?_⟩) | ((with_reducible refine gate_callee (f := 25) rfl ?_); refine goesL_ (some 17) rfl rfl Try.func25 (by kernel_rfl) rfl #[.int .u64 t236] rfl (by (try simp only [List.map_toArray, List.map_cons, List.map_nil]); first | done | rfl | (simp only [List.length_drop, List.length_take]; rfl)) ?_; (with_reducible refine (float_Int.calls t236 t237 false _ A4.out).mono ?_); rintro e w' ⟨rfl, ⟨nd, rfl⟩⟩; refine ⟨_, rfl, ?_⟩) | (go_at_call 26; (with_reducible refine (float_Of.calls 4611686018427387904 t239 _ A45.out).mono ?_); rintro e w' ⟨rfl, ⟨nd, rfl⟩⟩) | (go_at_call 15; (with_reducible refine (float_Less.calls t239 t236 t240 _ A46.out).mono ?_); rintro e w' ⟨rfl, ⟨nd, rfl⟩⟩))
        go_ret
        exact ⟨by first | rfl | (simp; done) | (simp [*]; done), by repeat (first | exact Drawn0.refl _ | apply Drawn0.step)⟩
      · rw [if_neg c44] at H
        have c44b0 : decide (4611686018427387904 < a0) = false := decide_eq_false c44
        clear c44
        obtain rfl := Option.some.inj H
        exact absurd hT_.out (by decide)
    · replace c43 := Bool.eq_false_iff.mpr c43
      subst c43
      have H1 : (some false) = some r := by rw [if_neg (show ¬ (false = true) by decide)] at H; exact H
      clear H
      have H := H1
      clear H1
      obtain rfl := Option.some.inj H
      exact absurd hT_.out (by decide)

/-- THE ONE PURE STATEMENT of heronrylaw02_FloatRounds: yours. -/
def heronrylaw02_FloatRounds.Pure : Prop := ∀ (a0 : Int), (Lit.int .i64 a0).wf = true → ∃ k, heronrylaw02_FloatRounds.f k a0 = some true
theorem heronrylaw02_FloatRounds.walk (P : heronrylaw02_FloatRounds.Pure) (a0 : Int) (w : World) (w0 : (Lit.int .i64 a0).wf = true) :
    Calls Try.prog 9 #[.int .i64 a0] w fun e w' => e = .returned (.bool true) ∧ Below w.heap.size w w' := by
  obtain ⟨k, h⟩ := P a0 w0
  refine (heronrylaw02_FloatRounds.calls k a0 true w ⟨rfl⟩ h).mono ?_
  rintro e w' ⟨rfl, hd⟩
  exact ⟨rfl, hd.below⟩

end Go.Proofs.Ytkcoabnghdlboaa.Q
