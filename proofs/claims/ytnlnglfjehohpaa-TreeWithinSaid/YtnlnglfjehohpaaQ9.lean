-- Written by hprint.py (the kit's printer, with functions that are given). Lean checks it.
import Derived.Test.YtnlnglfjehohpaaQ0
import Derived.Test.YtnlnglfjehohpaaQ6
import Derived.Test.YtnlnglfjehohpaaQ7
import Derived.Test.YtnlnglfjehohpaaTD
import Derived.Test.YtnlnglfjehohpaaTT
import Derived.Test.YtnlnglfjehohpaaTV
namespace Go.Proofs.Ytnlnglfjehohpaa.Q
open Go.RowKit Go.Proofs.YtnlnglfjehohpaaW.PrintWords Go.Proofs.YtnlnglfjehohpaaW.PrintLast Go.Proofs.YtnlnglfjehohpaaW.PrintMore
attribute [local go_sem] max2_int min2_int max_two min_two max_three min_three max_four min_four   -- for this text's walks alone
set_option linter.unusedVariables false
set_option linter.unusedSimpArgs false

/-! ### heronrylaw09_TreeWithin: function 4 -/
mutual
def heronrylaw09_TreeWithin.l0 : Nat → Bool → Int → Int → Int → List (S35) → Int → Option (Bool)
  | 0, _, _, _, _, _, _ => none
  | k + 1, x5, x7, x8, x9, x267000, x267001 => if x9 < (x267000.length : Int) then ((tree_Within.f x267000 x267001 x7 x9).bind fun t273 => (if 0 ≤ x7 then (if x7 < (x267000.length : Int) then (if x9 = x7 then (heronrylaw09_TreeWithin.j1 k x5 x7 x8 x9 t273 (t273 != true) x267000 x267001) else (if ((rd_T35 x267000 x7).f0) ≥ 0 then ((tree_Within.f x267000 x267001 ((rd_T35 x267000 x7).f0) x9).bind fun t275 => (heronrylaw09_TreeWithin.j1 k x5 x7 x8 x9 t273 (t273 != t275) x267000 x267001)) else (heronrylaw09_TreeWithin.j1 k x5 x7 x8 x9 t273 (t273 != false) x267000 x267001))) else (none)) else (none))) else ((tree_Top.f x267000 x267001 x7).bind fun t269 => (if x5 = true then ((tree_Deep.f x267000 x267001 x7).bind fun t270 => (if t270 = x8 then (if t269 ≥ 0 then (if t269 < (x267000.length : Int) then (if 0 ≤ t269 then (if ((rd_T35 x267000 t269).f0) = (-1) then ((tree_Within.f x267000 x267001 x7 t269).bind fun t272 => (some t272)) else (some false)) else (none)) else (some false)) else (some false)) else (some false))) else (some false)))
def heronrylaw09_TreeWithin.j1 : Nat → Bool → Int → Int → Int → Bool → Bool → List (S35) → Int → Option (Bool)
  | 0, _, _, _, _, _, _, _, _ => none
  | k + 1, x5, x7, x8, x9, x10, x74, x267000, x267001 => if x74 = true then (some false) else (if x10 = true then ((tree_Top.f x267000 x267001 x9).bind fun t276 => ((tree_Top.f x267000 x267001 x7).bind fun t277 => (if t276 = t277 then (heronrylaw09_TreeWithin.l0 k x5 x7 (wrap64 (x8 + 1)) (wrap64 (x9 + 1)) x267000 x267001) else (some false)))) else (heronrylaw09_TreeWithin.l0 k x5 x7 x8 (wrap64 (x9 + 1)) x267000 x267001))
end
def heronrylaw09_TreeWithin.f (k : Nat) (l0 : List (S47)) (a1 : Int) : Option (Bool) := (heronrylaw09_awake.f k).bind fun t261 => (if (l0.length : Int) > 100 then (some t261) else ((heronrylaw09_grown.f k l0).bind fun bt262 => (if (bt262.1.length : Int) = 0 then (if t261 = true then ((tree_Deep.f bt262.1 bt262.2 a1).bind fun t267 => (if t267 = 0 then ((tree_Top.f bt262.1 bt262.2 a1).bind fun t268 => (some (t268 == (-1)))) else (some false))) else (some false)) else (heronrylaw09_TreeWithin.l0 k t261 (Int.tmod (Go.bits .and .i64 a1 65535) (bt262.1.length : Int)) 0 0 bt262.1 bt262.2))))
theorem heronrylaw09_TreeWithin.mono_l : ∀ k, (∀ y0 y1 y2 y3 y4 y5, LeO (heronrylaw09_TreeWithin.l0 k y0 y1 y2 y3 y4 y5) (heronrylaw09_TreeWithin.l0 (k + 1) y0 y1 y2 y3 y4 y5)) ∧ (∀ y0 y1 y2 y3 y4 y5 y6 y7, LeO (heronrylaw09_TreeWithin.j1 k y0 y1 y2 y3 y4 y5 y6 y7) (heronrylaw09_TreeWithin.j1 (k + 1) y0 y1 y2 y3 y4 y5 y6 y7))
  | 0 => ⟨fun _ _ _ _ _ _ r h => by simp [heronrylaw09_TreeWithin.l0] at h, fun _ _ _ _ _ _ _ _ r h => by simp [heronrylaw09_TreeWithin.j1] at h⟩
  | k + 1 => by
    obtain ⟨ih0, ih1⟩ := heronrylaw09_TreeWithin.mono_l k
    refine ⟨?_, ?_⟩
    · intro y0 y1 y2 y3 y4 y5
      unfold heronrylaw09_TreeWithin.l0
      repeat' first
      | (with_reducible exact ih0 _ _ _ _ _ _)
      | (with_reducible exact ih1 _ _ _ _ _ _ _ _)
      | (with_reducible exact heronrylaw09_awake.mono _)
      | (with_reducible exact heronrylaw09_grown.mono _ _)
      | (with_reducible exact LeO.refl _)
      | (with_reducible exact LeO.none _)
      | (with_reducible refine LeO.ite ?_ ?_)
      | (with_reducible refine LeO.bind ?_ (fun _ => ?_))
      | exact ih0 _ _ _ _ _ _
      | exact ih1 _ _ _ _ _ _ _ _
      | exact heronrylaw09_awake.mono _
      | exact heronrylaw09_grown.mono _ _
      | exact LeO.none _
      | refine LeO.ite ?_ ?_
      | refine LeO.bind ?_ (fun _ => ?_)
    · intro y0 y1 y2 y3 y4 y5 y6 y7
      unfold heronrylaw09_TreeWithin.j1
      repeat' first
      | (with_reducible exact ih0 _ _ _ _ _ _)
      | (with_reducible exact ih1 _ _ _ _ _ _ _ _)
      | (with_reducible exact heronrylaw09_awake.mono _)
      | (with_reducible exact heronrylaw09_grown.mono _ _)
      | (with_reducible exact LeO.refl _)
      | (with_reducible exact LeO.none _)
      | (with_reducible refine LeO.ite ?_ ?_)
      | (with_reducible refine LeO.bind ?_ (fun _ => ?_))
      | exact ih0 _ _ _ _ _ _
      | exact ih1 _ _ _ _ _ _ _ _
      | exact heronrylaw09_awake.mono _
      | exact heronrylaw09_grown.mono _ _
      | exact LeO.none _
      | refine LeO.ite ?_ ?_
      | refine LeO.bind ?_ (fun _ => ?_)
theorem heronrylaw09_TreeWithin.mono : ∀ a0 a1 k, LeO (heronrylaw09_TreeWithin.f k a0 a1) (heronrylaw09_TreeWithin.f (k + 1) a0 a1) := by
  intro a0 a1 k
  obtain ⟨ih0, ih1⟩ := heronrylaw09_TreeWithin.mono_l k
  unfold heronrylaw09_TreeWithin.f
  repeat' first
      | (with_reducible exact ih0 _ _ _ _ _ _)
      | (with_reducible exact ih1 _ _ _ _ _ _ _ _)
      | (with_reducible exact heronrylaw09_awake.mono _)
      | (with_reducible exact heronrylaw09_grown.mono _ _)
      | (with_reducible exact LeO.refl _)
      | (with_reducible exact LeO.none _)
      | (with_reducible refine LeO.ite ?_ ?_)
      | (with_reducible refine LeO.bind ?_ (fun _ => ?_))
      | exact ih0 _ _ _ _ _ _
      | exact ih1 _ _ _ _ _ _ _ _
      | exact heronrylaw09_awake.mono _
      | exact heronrylaw09_grown.mono _ _
      | exact LeO.none _
      | refine LeO.ite ?_ ?_
      | refine LeO.bind ?_ (fun _ => ?_)
set_option maxHeartbeats 8000000 in
set_option maxRecDepth 100000 in
theorem heronrylaw09_TreeWithin.calls (k : Nat) (A0 : Option Addr) (c0 : Nat) (l0 : List (S47)) (a1 : Int) (r : Bool) (w : World) (hT_ : Aside0 (r = true)) (hr0 : Kd.C k47 w A0 l0.length l0) (hc0 : l0.length ≤ c0) (h : heronrylaw09_TreeWithin.f k l0 a1 = some r) :
    Calls Try.prog 4 #[.slice A0 l0.length c0, .int .i64 a1] w fun e w' => e = .returned (.bool r) ∧ Below w.heap.size w w' := by
  have hu26 := Try.underlying26
  have HR0 := Aside0.mk hr0
  have HC0 := Aside0.mk hc0
  clear hr0 hc0
  have HB := Aside0.mk (Below.refl w.heap.size w)
  have H : ((heronrylaw09_awake.f k).bind fun t261 => (if (l0.length : Int) > 100 then (some t261) else ((heronrylaw09_grown.f k l0).bind fun bt262 => (if (bt262.1.length : Int) = 0 then (if t261 = true then ((tree_Deep.f bt262.1 bt262.2 a1).bind fun t267 => (if t267 = 0 then ((tree_Top.f bt262.1 bt262.2 a1).bind fun t268 => (some (t268 == (-1)))) else (some false))) else (some false)) else (heronrylaw09_TreeWithin.l0 k t261 (Int.tmod (Go.bits .and .i64 a1 65535) (bt262.1.length : Int)) 0 0 bt262.1 bt262.2))))) = some r := h
  clear h
  replace H := Option.bind_eq_some_iff.mp H
  obtain ⟨t261, A30, H⟩ := H
  replace H : (if (l0.length : Int) > 100 then (some t261) else ((heronrylaw09_grown.f k l0).bind fun bt262 => (if (bt262.1.length : Int) = 0 then (if t261 = true then ((tree_Deep.f bt262.1 bt262.2 a1).bind fun t267 => (if t267 = 0 then ((tree_Top.f bt262.1 bt262.2 a1).bind fun t268 => (some (t268 == (-1)))) else (some false))) else (some false)) else (heronrylaw09_TreeWithin.l0 k t261 (Int.tmod (Go.bits .and .i64 a1 65535) (bt262.1.length : Int)) 0 0 bt262.1 bt262.2)))) = some r := H
  have A3 := Aside0.mk A30
  clear A30
  by_cases c4 : (l0.length : Int) > 100
  · rw [if_pos c4] at H
    have c4b0 : decide (100 < (l0.length : Int)) = true := decide_eq_true c4
    have c4b1 : decide (100 < l0.length) = true := decide_eq_true (by omega)
    clear c4
    obtain rfl := Option.some.inj H
    go_enter Try.func4, Try.ntmps4
    go_wp2_with (first | ((with_reducible refine gate_callee (f := 8) rfl ?_); refine goesL_ (some 13) rfl rfl Try.func8 (by kernel_rfl) rfl #[] rfl (by (try simp only [List.map_toArray, List.map_cons, List.map_nil]); first | done | rfl | (simp only [List.length_drop, List.length_take]; rfl)) ?_; (with_reducible refine (heronrylaw09_awake.calls k  t261 _ A3.out).mono ?_); rintro e w5 ⟨rfl, hb⟩; refine ⟨_, rfl, ?_⟩; have n0_ := Aside0.mk (below_step (by repeat (first | (with_reducible first | exact HB.out | apply below_alloc | apply pw_below_drewN | apply below_drew1) | exact HB.out)) hb); clear HB; have HB := n0_; clear n0_; (try clear hb); (try clear hb2); (try clear hk); (try clear hi)))
    go_ret
    exact ⟨by first | rfl | (simp [errW_none, errW_some] <;> rfl) | (simp [*, errW_none, errW_some] <;> rfl), by repeat (first | (with_reducible first | exact HB.out | apply below_alloc | apply pw_below_drewN | apply below_drew1) | exact HB.out)⟩
  · rw [if_neg c4] at H
    have c4b0 : decide (100 < (l0.length : Int)) = false := decide_eq_false c4
    have c4b1 : decide (100 < l0.length) = false := decide_eq_false (by omega)
    clear c4
    replace H := Option.bind_eq_some_iff.mp H
    obtain ⟨⟨t262, t265⟩, A60, H⟩ := H
    replace H : (if (t262.length : Int) = 0 then (if t261 = true then ((tree_Deep.f t262 t265 a1).bind fun t267 => (if t267 = 0 then ((tree_Top.f t262 t265 a1).bind fun t268 => (some (t268 == (-1)))) else (some false))) else (some false)) else (heronrylaw09_TreeWithin.l0 k t261 (Int.tmod (Go.bits .and .i64 a1 65535) (t262.length : Int)) 0 0 t262 t265)) = some r := H
    have A6 := Aside0.mk A60
    clear A60
    by_cases c7 : (t262.length : Int) = 0
    · rw [if_pos c7] at H
      have c7b0 : ((t262.length : Int) == 0) = true := beq_iff_eq.mpr c7
      have c7b1 : ((t262.length : Int) != 0) = false := bne_eq_false_iff_eq.mpr c7
      clear c7
      by_cases c8 : t261 = true
      · subst c8
        have H1 : ((tree_Deep.f t262 t265 a1).bind fun t267 => (if t267 = 0 then ((tree_Top.f t262 t265 a1).bind fun t268 => (some (t268 == (-1)))) else (some false))) = some r := by rw [if_pos rfl] at H; exact H
        clear H
        have H := H1
        clear H1
        replace H := Option.bind_eq_some_iff.mp H
        obtain ⟨t267, A90, H⟩ := H
        replace H : (if t267 = 0 then ((tree_Top.f t262 t265 a1).bind fun t268 => (some (t268 == (-1)))) else (some false)) = some r := H
        have A9 := Aside0.mk A90
        clear A90
        by_cases c10 : t267 = 0
        · rw [if_pos c10] at H
          have c10b0 : (t267 == 0) = true := beq_iff_eq.mpr c10
          have c10b1 : (t267 != 0) = false := bne_eq_false_iff_eq.mpr c10
          clear c10
          replace H := Option.bind_eq_some_iff.mp H
          obtain ⟨t268, A110, H⟩ := H
          replace H : (some (t268 == (-1))) = some r := H
          have A11 := Aside0.mk A110
          clear A110
          obtain rfl := Option.some.inj H
          go_enter Try.func4, Try.ntmps4
          go_wp2_with (first | ((with_reducible refine gate_callee (f := 8) rfl ?_); refine goesL_ (some 13) rfl rfl Try.func8 (by kernel_rfl) rfl #[] rfl (by (try simp only [List.map_toArray, List.map_cons, List.map_nil]); first | done | rfl | (simp only [List.length_drop, List.length_take]; rfl)) ?_; (with_reducible refine (heronrylaw09_awake.calls k  true _ A3.out).mono ?_); rintro e w12 ⟨rfl, hb⟩; refine ⟨_, rfl, ?_⟩; have n0_ := Aside0.mk (below_step (by repeat (first | (with_reducible first | exact HB.out | apply below_alloc | apply pw_below_drewN | apply below_drew1) | exact HB.out)) hb); clear HB; have HB := n0_; clear n0_; (try clear hb); (try clear hb2); (try clear hk); (try clear hi)) | ((with_reducible refine gate_callee (f := 9) rfl ?_); refine goesL_ (some 19) rfl rfl Try.func9 (by kernel_rfl) rfl #[.slice A0 l0.length c0] rfl (by (try simp only [List.map_toArray, List.map_cons, List.map_nil]); first | done | rfl | (simp only [List.length_drop, List.length_take]; rfl)) ?_; (with_reducible refine (heronrylaw09_grown.calls k _ _ l0 t262 t265 _ ?side1 ?side2 A6.out).mono ?_); (case side1 => repeat (first | exact (Kd.C_below HR0.out HB.out) | (with_reducible refine Kd.C_alloc ?_ _) | (with_reducible refine Kd.C_drewN ?_ _) | (with_reducible refine Kd.C_drew ?_))); (case side2 => exact HC0.out); rintro e w13 ⟨v263, rfl, ho0, hb⟩; refine ⟨_, rfl, ?_⟩; have n0_ := Aside0.mk (Kd.R_lower ho0 (below_size (by repeat (first | (with_reducible first | exact HB.out | apply below_alloc | apply pw_below_drewN | apply below_drew1) | exact HB.out)))); have n1_ := Aside0.mk (below_step (by repeat (first | (with_reducible first | exact HB.out | apply below_alloc | apply pw_below_drewN | apply below_drew1) | exact HB.out)) hb); clear HB; have HO264 := n0_; have HB := n1_; clear n0_ n1_; (try clear hb); (try clear hb2); (try clear hk); (try clear hi); (try clear ho0)) | ((with_reducible refine gate_dst (N := 6) rfl ?_); (try (refine gate_guard (by rfl) ?_; dsimp only)); refine box_event ?hg (N := 6) ?hd (cs := #[.slice none 0 0, .int .i64 0]) (t := 26) ?hr ?_; (case hd => rfl); (case hg => rfl); (case hr => first | (go_simp; done) | (go_simp; rfl)); intro gb266 hg w14 hbox hb; have n0_ := Aside0.mk (Kd.R_below (by (with_reducible repeat (first | apply Kd.R_alloc | apply Kd.R_drewN | apply Kd.R_drew)); exact HO264.out) hb); have n1_ := Aside0.mk (below_step (by repeat (first | (with_reducible first | exact HB.out | apply below_alloc | apply pw_below_drewN | apply below_drew1) | exact HB.out)) hb); have n2_ := Aside0.mk (hbox); have n3_ := Aside0.mk ((by rw [hg]; exact (below_size (by repeat (first | (with_reducible first | exact HB.out | apply below_alloc | apply pw_below_drewN | apply below_drew1) | exact HB.out))) : w.heap.size ≤ gb266)); have n4_ := Aside0.mk ((by rw [hg]; exact (below_size (by repeat (first | (with_reducible first | exact HB.out | apply below_alloc | apply pw_below_drewN | apply below_drew1) | exact HB.out))) : w.heap.size ≤ gb266)); clear HO264; clear HB; have HO264 := n0_; have HB := n1_; have BK266 := n2_; have GW266 := n3_; have GE266 := n4_; clear n0_ n1_ n2_ n3_ n4_; clear hb hbox hg; obtain ⟨Ao15, co15, eo15⟩ := Kd.R_slice HO264.out; subst eo15; have hcz16_0 : w14.cell? ⟨gb266, 0, none⟩ = some (.slice none 0 0) := (blk_cell BK266.out 0).trans rfl; have hcz16_1 : w14.cell? ⟨gb266, 1, none⟩ = some (.int .i64 0) := (blk_cell BK266.out 1).trans rfl; have hfz16_0 := blk_frozen BK266.out 0; have hfz16_1 := blk_frozen BK266.out 1) | (go_at_call 13; (with_reducible refine (tree_Deep.calls _ _ t262 t265 a1 t267 _ ?side1 ?side2 A9.out).mono ?_); (case side1 => refine (Kd.R_reads' (e := 35) (base := w.heap.size) (ok := fun k_ => True) (n := t262.length) (c := co15) ?_).2.2; exact (by (with_reducible repeat (first | apply Kd.R_alloc | apply Kd.R_drewN | apply Kd.R_drew)); exact (Kd.R_mono (Kd.R_far (p := ⟨gb266, 1, none⟩) (Kd.R_far (p := ⟨gb266, 0, none⟩) (Kd.R_types HO264.out BK266.out (by decide)) (fun _ hk => hk.2) (.slice Ao15 t262.length co15)) (fun _ hk => hk.2) (.int .i64 t265)) (fun _ h_ => h_.1)))); (case side2 => exact (Kd.R_reads' HO264.out).2.1); rintro e w17 ⟨rfl, hb⟩; have n0_ := Aside0.mk (Kd.R_below (by (with_reducible repeat (first | apply Kd.R_alloc | apply Kd.R_drewN | apply Kd.R_drew)); exact (Kd.R_mono (Kd.R_far (p := ⟨gb266, 1, none⟩) (Kd.R_far (p := ⟨gb266, 0, none⟩) (Kd.R_types HO264.out BK266.out (by decide)) (fun _ hk => hk.2) (.slice Ao15 t262.length co15)) (fun _ hk => hk.2) (.int .i64 t265)) (fun _ h_ => h_.1))) hb); have n1_ := Aside0.mk (blk_below (g := gb266) (o := .cells #[.slice Ao15 t262.length co15, .int .i64 t265] 26 (0, 0)) (by (with_reducible repeat (first | refine blk_drewN ?_ _ | refine blk_drew ?_ | refine blk_alloc ?_ _)); refine blk_put (cs := #[.slice Ao15 t262.length co15, .int .i64 0]) ?_ 1 _ rfl; (with_reducible repeat (first | refine blk_drewN ?_ _ | refine blk_drew ?_ | refine blk_alloc ?_ _)); refine blk_put (cs := #[.slice none 0 0, .int .i64 0]) ?_ 0 _ rfl; (with_reducible repeat (first | refine blk_drewN ?_ _ | refine blk_drew ?_ | refine blk_alloc ?_ _)); exact BK266.out) hb); have n2_ := Aside0.mk (below_step (by repeat (first | (with_reducible first | exact HB.out | apply below_alloc | apply pw_below_drewN | apply below_drew1 | refine below_set ?_ GE266.out) | exact HB.out)) hb); clear HO264; clear BK266; clear HB; have HO264 := n0_; have BK266 := n1_; have HB := n2_; clear n0_ n1_ n2_; (try clear hb); (try clear hb2); (try clear hk); (try clear hi); have hcz18_0 : w17.cell? ⟨gb266, 0, none⟩ = some (.slice Ao15 t262.length co15) := (blk_cell BK266.out 0).trans rfl; have hcz18_1 : w17.cell? ⟨gb266, 1, none⟩ = some (.int .i64 t265) := (blk_cell BK266.out 1).trans rfl; have hfz18_0 := blk_frozen BK266.out 0; have hfz18_1 := blk_frozen BK266.out 1) | (go_at_call 14; (with_reducible refine (tree_Top.calls _ _ t262 t265 a1 t268 _ ?side1 ?side2 A11.out).mono ?_); (case side1 => repeat (first | exact (Kd.R_reads' HO264.out).2.2 | (with_reducible refine Kd.C_alloc ?_ _) | (with_reducible refine Kd.C_drewN ?_ _) | (with_reducible refine Kd.C_drew ?_))); (case side2 => exact (Kd.R_reads' HO264.out).2.1); rintro e w19 ⟨rfl, hb⟩; have n0_ := Aside0.mk (Kd.R_below (by (with_reducible repeat (first | apply Kd.R_alloc | apply Kd.R_drewN | apply Kd.R_drew)); exact HO264.out) hb); have n1_ := Aside0.mk (blk_below (g := gb266) (o := .cells #[.slice Ao15 t262.length co15, .int .i64 t265] 26 (0, 0)) (by (with_reducible repeat (first | refine blk_drewN ?_ _ | refine blk_drew ?_ | refine blk_alloc ?_ _)); exact BK266.out) hb); have n2_ := Aside0.mk (below_step (by repeat (first | (with_reducible first | exact HB.out | apply below_alloc | apply pw_below_drewN | apply below_drew1 | refine below_set ?_ GE266.out) | exact HB.out)) hb); clear HO264; clear BK266; clear HB; have HO264 := n0_; have BK266 := n1_; have HB := n2_; clear n0_ n1_ n2_; (try clear hb); (try clear hb2); (try clear hk); (try clear hi)))
          go_ret
          exact ⟨by first | rfl | (simp [errW_none, errW_some] <;> rfl) | (simp [*, errW_none, errW_some] <;> rfl), by repeat (first | (with_reducible first | exact HB.out | apply below_alloc | apply pw_below_drewN | apply below_drew1 | refine below_set ?_ GE266.out) | exact HB.out)⟩
        · rw [if_neg c10] at H
          have c10b0 : (t267 == 0) = false := beq_eq_false_iff_ne.mpr c10
          have c10b1 : (t267 != 0) = true := bne_iff_ne.mpr c10
          obtain rfl := Option.some.inj H
          exact absurd hT_.out (by decide)
      · replace c8 := Bool.eq_false_iff.mpr c8
        subst c8
        have H1 : (some false) = some r := by rw [if_neg (show ¬ (false = true) by decide)] at H; exact H
        clear H
        have H := H1
        clear H1
        obtain rfl := Option.some.inj H
        exact absurd hT_.out (by decide)
    · rw [if_neg c7] at H
      have c7b0 : ((t262.length : Int) == 0) = false := beq_eq_false_iff_ne.mpr c7
      have c7b1 : ((t262.length : Int) != 0) = true := bne_iff_ne.mpr c7
      have c7b2 : ¬ (t262 = []) := fun h_ => c7 (by rw [h_]; rfl)
      have H' := Aside0.mk H
      clear H
      go_enter Try.func4, Try.ntmps4
      go_wp2_with (first | ((with_reducible refine gate_callee (f := 8) rfl ?_); refine goesL_ (some 13) rfl rfl Try.func8 (by kernel_rfl) rfl #[] rfl (by (try simp only [List.map_toArray, List.map_cons, List.map_nil]); first | done | rfl | (simp only [List.length_drop, List.length_take]; rfl)) ?_; (with_reducible refine (heronrylaw09_awake.calls k  t261 _ A3.out).mono ?_); rintro e w20 ⟨rfl, hb⟩; refine ⟨_, rfl, ?_⟩; have n0_ := Aside0.mk (below_step (by repeat (first | (with_reducible first | exact HB.out | apply below_alloc | apply pw_below_drewN | apply below_drew1) | exact HB.out)) hb); clear HB; have HB := n0_; clear n0_; (try clear hb); (try clear hb2); (try clear hk); (try clear hi)) | ((with_reducible refine gate_callee (f := 9) rfl ?_); refine goesL_ (some 19) rfl rfl Try.func9 (by kernel_rfl) rfl #[.slice A0 l0.length c0] rfl (by (try simp only [List.map_toArray, List.map_cons, List.map_nil]); first | done | rfl | (simp only [List.length_drop, List.length_take]; rfl)) ?_; (with_reducible refine (heronrylaw09_grown.calls k _ _ l0 t262 t265 _ ?side1 ?side2 A6.out).mono ?_); (case side1 => repeat (first | exact (Kd.C_below HR0.out HB.out) | (with_reducible refine Kd.C_alloc ?_ _) | (with_reducible refine Kd.C_drewN ?_ _) | (with_reducible refine Kd.C_drew ?_))); (case side2 => exact HC0.out); rintro e w21 ⟨v263, rfl, ho0, hb⟩; refine ⟨_, rfl, ?_⟩; have n0_ := Aside0.mk (Kd.R_lower ho0 (below_size (by repeat (first | (with_reducible first | exact HB.out | apply below_alloc | apply pw_below_drewN | apply below_drew1) | exact HB.out)))); have n1_ := Aside0.mk (below_step (by repeat (first | (with_reducible first | exact HB.out | apply below_alloc | apply pw_below_drewN | apply below_drew1) | exact HB.out)) hb); clear HB; have HO264 := n0_; have HB := n1_; clear n0_ n1_; (try clear hb); (try clear hb2); (try clear hk); (try clear hi); (try clear ho0)) | ((with_reducible refine gate_dst (N := 6) rfl ?_); (try (refine gate_guard (by rfl) ?_; dsimp only)); refine box_event ?hg (N := 6) ?hd (cs := #[.slice none 0 0, .int .i64 0]) (t := 26) ?hr ?_; (case hd => rfl); (case hg => rfl); (case hr => first | (go_simp; done) | (go_simp; rfl)); intro gb266 hg w22 hbox hb; have n0_ := Aside0.mk (Kd.R_below (by (with_reducible repeat (first | apply Kd.R_alloc | apply Kd.R_drewN | apply Kd.R_drew)); exact HO264.out) hb); have n1_ := Aside0.mk (below_step (by repeat (first | (with_reducible first | exact HB.out | apply below_alloc | apply pw_below_drewN | apply below_drew1) | exact HB.out)) hb); have n2_ := Aside0.mk (hbox); have n3_ := Aside0.mk ((by rw [hg]; exact (below_size (by repeat (first | (with_reducible first | exact HB.out | apply below_alloc | apply pw_below_drewN | apply below_drew1) | exact HB.out))) : w.heap.size ≤ gb266)); have n4_ := Aside0.mk ((by rw [hg]; exact (below_size (by repeat (first | (with_reducible first | exact HB.out | apply below_alloc | apply pw_below_drewN | apply below_drew1) | exact HB.out))) : w.heap.size ≤ gb266)); clear HO264; clear HB; have HO264 := n0_; have HB := n1_; have BK266 := n2_; have GW266 := n3_; have GE266 := n4_; clear n0_ n1_ n2_ n3_ n4_; clear hb hbox hg; obtain ⟨Ao23, co23, eo23⟩ := Kd.R_slice HO264.out; subst eo23; have hcz24_0 : w22.cell? ⟨gb266, 0, none⟩ = some (.slice none 0 0) := (blk_cell BK266.out 0).trans rfl; have hcz24_1 : w22.cell? ⟨gb266, 1, none⟩ = some (.int .i64 0) := (blk_cell BK266.out 1).trans rfl; have hfz24_0 := blk_frozen BK266.out 0; have hfz24_1 := blk_frozen BK266.out 1))
      go_loopg [8, 9] k (fun kq v8 v9 w' => ∃ (x8_1 : Int) (x9_1 : Int), v8 = .int .i64 x8_1 ∧ v9 = .int .i64 x9_1 ∧ Aside0 (heronrylaw09_TreeWithin.l0 kq t261 (Int.tmod (Go.bits .and .i64 a1 65535) (t262.length : Int)) x8_1 x9_1 t262 t265 = some r) ∧ Aside0 (kq ≤ k) ∧ Aside0 (Kd.R k35 35 w' w.heap.size (fun _ => True) (.slice Ao23 t262.length co23) t262) ∧ Aside0 (w'.heap[gb266]? = some (.cells #[(.slice Ao23 t262.length co23), .int .i64 t265] 26 (0, 0))) ∧ Aside0 (Below w.heap.size w w'))
      case atStart => exact ⟨(0), (0), (by first | rfl | (simp; done) | (simp [*]; done)), (by first | rfl | (simp; done) | (simp [*]; done)), H', ⟨Nat.le_refl _⟩, ⟨by (with_reducible repeat (first | apply Kd.R_alloc | apply Kd.R_drewN | apply Kd.R_drew)); exact Kd.R_mono (Kd.R_far (p := ⟨gb266, 1, none⟩) (Kd.R_far (p := ⟨gb266, 0, none⟩) (Kd.R_types HO264.out BK266.out (by decide)) (fun _ hk => hk.2) (.slice Ao23 t262.length co23)) (fun _ hk => hk.2) (.int .i64 t265)) (fun _ hk => trivial)⟩, ⟨by (with_reducible repeat (first | refine blk_drewN ?_ _ | refine blk_drew ?_ | refine blk_alloc ?_ _)); refine blk_put (cs := #[.slice Ao23 t262.length co23, .int .i64 0]) ?_ 1 _ rfl; (with_reducible repeat (first | refine blk_drewN ?_ _ | refine blk_drew ?_ | refine blk_alloc ?_ _)); refine blk_put (cs := #[.slice none 0 0, .int .i64 0]) ?_ 0 _ rfl; (with_reducible repeat (first | refine blk_drewN ?_ _ | refine blk_drew ?_ | refine blk_alloc ?_ _)); exact BK266.out⟩, ⟨by repeat (first | (with_reducible first | exact HB.out | apply below_alloc | apply pw_below_drewN | apply below_drew1 | refine below_set ?_ GE266.out) | exact HB.out)⟩⟩
      case round =>
        clear H'
        try clear c1
        try clear p2
        try clear c4
        try clear c4b0
        try clear c4b1
        try clear c7
        try clear c7b0
        try clear c7b1
        try clear c7b2
        try clear c8
        try clear c9
        try clear c10
        try clear c10b0
        try clear c10b1
        try clear hcz16_0
        try clear hcz16_1
        try clear hcz18_0
        try clear hcz18_1
        try clear hcz24_0
        try clear hcz24_1
        try clear hfz16_0
        try clear hfz16_1
        try clear hfz18_0
        try clear hfz18_1
        try clear hfz24_0
        try clear hfz24_1
        obtain ⟨x8_1, x9_1, rfl, rfl, HA, HK1, HO_267000, BK266, HB⟩ := hrel
        cases gk with
        | zero => exact absurd HA.out (by simp [heronrylaw09_TreeWithin.l0])
        | succ k1 =>
          have H := HA.out
          clear HA
          simp only [heronrylaw09_TreeWithin.l0] at H
          by_cases c25 : x9_1 < (t262.length : Int)
          · rw [if_pos c25] at H
            have c25b0 : decide (x9_1 < (t262.length : Int)) = true := decide_eq_true c25
            clear c25
            replace H := Option.bind_eq_some_iff.mp H
            obtain ⟨t273, A260, H⟩ := H
            replace H : (if 0 ≤ (Int.tmod (Go.bits .and .i64 a1 65535) (t262.length : Int)) then (if (Int.tmod (Go.bits .and .i64 a1 65535) (t262.length : Int)) < (t262.length : Int) then (if x9_1 = (Int.tmod (Go.bits .and .i64 a1 65535) (t262.length : Int)) then (heronrylaw09_TreeWithin.j1 k1 t261 (Int.tmod (Go.bits .and .i64 a1 65535) (t262.length : Int)) x8_1 x9_1 t273 (t273 != true) t262 t265) else (if ((rd_T35 t262 (Int.tmod (Go.bits .and .i64 a1 65535) (t262.length : Int))).f0) ≥ 0 then ((tree_Within.f t262 t265 ((rd_T35 t262 (Int.tmod (Go.bits .and .i64 a1 65535) (t262.length : Int))).f0) x9_1).bind fun t275 => (heronrylaw09_TreeWithin.j1 k1 t261 (Int.tmod (Go.bits .and .i64 a1 65535) (t262.length : Int)) x8_1 x9_1 t273 (t273 != t275) t262 t265)) else (heronrylaw09_TreeWithin.j1 k1 t261 (Int.tmod (Go.bits .and .i64 a1 65535) (t262.length : Int)) x8_1 x9_1 t273 (t273 != false) t262 t265))) else (none)) else (none)) = some r := H
            have A26 := Aside0.mk A260
            clear A260
            obtain ⟨ji27, hji27⟩ : ∃ j_ : Int, (Int.tmod (Go.bits .and .i64 a1 65535) (t262.length : Int)) = j_ := ⟨_, rfl⟩
            replace H : (if 0 ≤ (ji27) then (if (ji27) < (t262.length : Int) then (if x9_1 = (ji27) then (heronrylaw09_TreeWithin.j1 k1 t261 (ji27) x8_1 x9_1 t273 (t273 != true) t262 t265) else (if ((rd_T35 t262 (ji27)).f0) ≥ 0 then ((tree_Within.f t262 t265 ((rd_T35 t262 (ji27)).f0) x9_1).bind fun t275 => (heronrylaw09_TreeWithin.j1 k1 t261 (ji27) x8_1 x9_1 t273 (t273 != t275) t262 t265)) else (heronrylaw09_TreeWithin.j1 k1 t261 (ji27) x8_1 x9_1 t273 (t273 != false) t262 t265))) else (none)) else (none)) = some r := by first | (rw [hji27] at H; exact H) | (simp only [hji27] at H ⊢; exact H)
            (try rw [hji27] at A26)
            by_cases c28 : 0 ≤ (ji27)
            · rw [if_pos c28] at H
              have c28b0 : decide (0 ≤ (ji27)) = true := decide_eq_true c28
              clear c28
              by_cases c29 : (ji27) < (t262.length : Int)
              · rw [if_pos c29] at H
                have c29b0 : decide ((ji27) < (t262.length : Int)) = true := decide_eq_true c29
                clear c29
                have HC30 := Aside0.mk H
                clear H
                have hcz31_0 : wr.cell? ⟨gb266, 0, none⟩ = some (.slice Ao23 t262.length co23) := (blk_cell BK266.out 0).trans rfl
                have hcz31_1 : wr.cell? ⟨gb266, 1, none⟩ = some (.int .i64 t265) := (blk_cell BK266.out 1).trans rfl
                have hfz31_0 := blk_frozen BK266.out 0
                have hfz31_1 := blk_frozen BK266.out 1
                go_upto_region 14 with (first | ((with_reducible refine gate_callee (f := 12) rfl ?_); refine goesL_ (some 53) rfl rfl Try.func12 (by kernel_rfl) rfl #[.agg #[.slice Ao23 t262.length co23, .int .i64 t265], .int .i64 (ji27), .int .i64 x9_1] rfl (by (try simp only [List.map_toArray, List.map_cons, List.map_nil]); first | done | (simp only [hji27]; rfl) | rfl | (simp only [List.length_drop, List.length_take]; rfl)) ?_; (with_reducible refine (tree_Within.calls _ _ t262 t265 (ji27) x9_1 t273 _ ?side1 ?side2 A26.out).mono ?_); (case side1 => repeat (first | exact (Kd.R_reads' HO_267000.out).2.2 | (with_reducible refine Kd.C_alloc ?_ _) | (with_reducible refine Kd.C_drewN ?_ _) | (with_reducible refine Kd.C_drew ?_))); (case side2 => exact (Kd.R_reads' HO_267000.out).2.1); rintro e w32 ⟨rfl, hb⟩; refine ⟨_, rfl, ?_⟩; have n0_ := Aside0.mk (Kd.R_below (by (with_reducible repeat (first | apply Kd.R_alloc | apply Kd.R_drewN | apply Kd.R_drew)); exact HO_267000.out) hb); have n1_ := Aside0.mk (blk_below (g := gb266) (o := .cells #[.slice Ao23 t262.length co23, .int .i64 t265] 26 (0, 0)) (by (with_reducible repeat (first | refine blk_drewN ?_ _ | refine blk_drew ?_ | refine blk_alloc ?_ _)); exact BK266.out) hb); have n2_ := Aside0.mk (below_step (by repeat (first | (with_reducible first | exact HB.out | apply below_alloc | apply pw_below_drewN | apply below_drew1 | refine below_set ?_ GE266.out) | exact HB.out)) hb); clear HO_267000; clear BK266; clear HB; have HO_267000 := n0_; have BK266 := n1_; have HB := n2_; clear n0_ n1_ n2_; (try clear hb); (try clear hb2); (try clear hk); (try clear hi); have hcz33_0 : w32.cell? ⟨gb266, 0, none⟩ = some (.slice Ao23 t262.length co23) := (blk_cell BK266.out 0).trans rfl; have hcz33_1 : w32.cell? ⟨gb266, 1, none⟩ = some (.int .i64 t265) := (blk_cell BK266.out 1).trans rfl; have hfz33_0 := blk_frozen BK266.out 0; have hfz33_1 := blk_frozen BK266.out 1; have p274 : 0 ≤ ((ji27) : Int) := of_decide_eq_true (by first | (with_reducible assumption) | assumption); have q274 : (ji27) < (t262.length : Int) := of_decide_eq_true (by first | (with_reducible assumption) | assumption); obtain ⟨ad274, e274, hx274_0, hx274_1, hx274_2, hx274_3⟩ := at_T35 (Kd.R_reads' HO_267000.out).2.2 (ji27) p274 q274; cases e274; replace p274 := eq_true p274; replace q274 := eq_true q274))
                (try simp only [Act.put, List.setIfInBounds_toArray, List.set_cons_zero, List.set_cons_succ])
                go_cut [74] (fun v74 wc => ∃ (kq : Nat) (x74_29 : Bool), v74 = .bool x74_29 ∧ Aside0 (heronrylaw09_TreeWithin.j1 kq t261 (ji27) x8_1 x9_1 t273 x74_29 t262 t265 = some r) ∧ Aside0 (kq ≤ k1) ∧ Aside0 (Kd.R k35 35 wc w.heap.size (fun _ => True) (.slice (some ad274) t262.length co23) t262) ∧ Aside0 (wc.heap[gb266]? = some (.cells #[(.slice (some ad274) t262.length co23), .int .i64 t265] 26 (0, 0))) ∧ Aside0 (Below w.heap.size w wc))
                case first =>
                  have H := HC30.out
                  clear HC30
                  by_cases c34 : x9_1 = (ji27)
                  · rw [if_pos c34] at H
                    have c34b0 : (x9_1 == (ji27)) = true := beq_iff_eq.mpr c34
                    have c34b1 : (x9_1 != (ji27)) = false := bne_eq_false_iff_eq.mpr c34
                    clear c34
                    (first | rw [c34b0] | (simp only [i64_w, i32_w]; rw [c34b0]) | skip)
                    have H' := Aside0.mk H
                    clear H
                    go_wp2
                    go_meet
                    case rel => exact ⟨_, ((t273 != true)), (by first | rfl | (simp; done) | (simp [*]; done)), H', ⟨by have := HK1.out; first | omega | exact Nat.le_refl _⟩, ⟨by (with_reducible repeat (first | apply Kd.R_alloc | apply Kd.R_drewN | apply Kd.R_drew)); exact HO_267000.out⟩, ⟨by (with_reducible repeat (first | refine blk_drewN ?_ _ | refine blk_drew ?_ | refine blk_alloc ?_ _)); exact BK266.out⟩, ⟨by repeat (first | (with_reducible first | exact HB.out | apply below_alloc | apply pw_below_drewN | apply below_drew1 | refine below_set ?_ GE266.out) | exact HB.out)⟩⟩
                  · rw [if_neg c34] at H
                    have c34b0 : (x9_1 == (ji27)) = false := beq_eq_false_iff_ne.mpr c34
                    have c34b1 : (x9_1 != (ji27)) = true := bne_iff_ne.mpr c34
                    (first | rw [c34b0] | (simp only [i64_w, i32_w]; rw [c34b0]) | skip)
                    by_cases c35 : ((rd_T35 t262 (ji27)).f0) ≥ 0
                    · rw [if_pos c35] at H
                      have c35b0 : decide (0 ≤ ((rd_T35 t262 (ji27)).f0)) = true := decide_eq_true c35
                      clear c35
                      replace H := Option.bind_eq_some_iff.mp H
                      obtain ⟨t275, A360, H⟩ := H
                      replace H : (heronrylaw09_TreeWithin.j1 k1 t261 (ji27) x8_1 x9_1 t273 (t273 != t275) t262 t265) = some r := H
                      have A36 := Aside0.mk A360
                      clear A360
                      have H' := Aside0.mk H
                      clear H
                      have hcz37_0 : w32.cell? ⟨gb266, 0, none⟩ = some (.slice (some ad274) t262.length co23) := (blk_cell BK266.out 0).trans rfl
                      have hcz37_1 : w32.cell? ⟨gb266, 1, none⟩ = some (.int .i64 t265) := (blk_cell BK266.out 1).trans rfl
                      have hfz37_0 := blk_frozen BK266.out 0
                      have hfz37_1 := blk_frozen BK266.out 1
                      go_wp2_with (first | (go_at_call 12; (with_reducible refine (tree_Within.calls _ _ t262 t265 ((rd_T35 t262 (ji27)).f0) x9_1 t275 _ ?side1 ?side2 A36.out).mono ?_); (case side1 => repeat (first | exact (Kd.R_reads' HO_267000.out).2.2 | (with_reducible refine Kd.C_alloc ?_ _) | (with_reducible refine Kd.C_drewN ?_ _) | (with_reducible refine Kd.C_drew ?_))); (case side2 => exact (Kd.R_reads' HO_267000.out).2.1); rintro e w38 ⟨rfl, hb⟩; have n0_ := Aside0.mk (Kd.R_below (by (with_reducible repeat (first | apply Kd.R_alloc | apply Kd.R_drewN | apply Kd.R_drew)); exact HO_267000.out) hb); have n1_ := Aside0.mk (blk_below (g := gb266) (o := .cells #[.slice (some ad274) t262.length co23, .int .i64 t265] 26 (0, 0)) (by (with_reducible repeat (first | refine blk_drewN ?_ _ | refine blk_drew ?_ | refine blk_alloc ?_ _)); exact BK266.out) hb); have n2_ := Aside0.mk (below_step (by repeat (first | (with_reducible first | exact HB.out | apply below_alloc | apply pw_below_drewN | apply below_drew1 | refine below_set ?_ GE266.out) | exact HB.out)) hb); clear HO_267000; clear BK266; clear HB; have HO_267000 := n0_; have BK266 := n1_; have HB := n2_; clear n0_ n1_ n2_; (try clear hb); (try clear hb2); (try clear hk); (try clear hi)))
                      go_meet
                      case rel => exact ⟨_, ((t273 != t275)), (by first | rfl | (simp; done) | (simp [*]; done)), H', ⟨by have := HK1.out; first | omega | exact Nat.le_refl _⟩, ⟨by (with_reducible repeat (first | apply Kd.R_alloc | apply Kd.R_drewN | apply Kd.R_drew)); exact HO_267000.out⟩, ⟨by (with_reducible repeat (first | refine blk_drewN ?_ _ | refine blk_drew ?_ | refine blk_alloc ?_ _)); exact BK266.out⟩, ⟨by repeat (first | (with_reducible first | exact HB.out | apply below_alloc | apply pw_below_drewN | apply below_drew1 | refine below_set ?_ GE266.out) | exact HB.out)⟩⟩
                    · rw [if_neg c35] at H
                      have c35b0 : decide (0 ≤ ((rd_T35 t262 (ji27)).f0)) = false := decide_eq_false c35
                      clear c35
                      have H' := Aside0.mk H
                      clear H
                      go_wp2
                      go_meet
                      case rel => exact ⟨_, ((t273 != false)), (by first | rfl | (simp; done) | (simp [*]; done)), H', ⟨by have := HK1.out; first | omega | exact Nat.le_refl _⟩, ⟨by (with_reducible repeat (first | apply Kd.R_alloc | apply Kd.R_drewN | apply Kd.R_drew)); exact HO_267000.out⟩, ⟨by (with_reducible repeat (first | refine blk_drewN ?_ _ | refine blk_drew ?_ | refine blk_alloc ?_ _)); exact BK266.out⟩, ⟨by repeat (first | (with_reducible first | exact HB.out | apply below_alloc | apply pw_below_drewN | apply below_drew1 | refine below_set ?_ GE266.out) | exact HB.out)⟩⟩
                case rest =>
                  clear HC30
                  try clear c1
                  try clear c2
                  try clear p2
                  try clear q2
                  try clear hx2
                  try clear c3
                  try clear c4
                  try clear c4b0
                  try clear c4b1
                  try clear c7
                  try clear c7b0
                  try clear c7b1
                  try clear c7b2
                  try clear c8
                  try clear c9
                  try clear c10
                  try clear c10b0
                  try clear c10b1
                  try clear c12
                  try clear c25
                  try clear c25b0
                  try clear p27
                  try clear q27
                  try clear hx27
                  try clear c28
                  try clear c28b0
                  try clear c29
                  try clear c29b0
                  try clear c34
                  try clear c34b0
                  try clear c34b1
                  try clear c35
                  try clear c35b0
                  try clear hcz16_0
                  try clear hcz16_1
                  try clear hcz18_0
                  try clear hcz18_1
                  try clear hcz24_0
                  try clear hcz24_1
                  try clear hcz31_0
                  try clear hcz31_1
                  try clear hcz33_0
                  try clear hcz33_1
                  try clear hcz37_0
                  try clear hcz37_1
                  try clear hfz16_0
                  try clear hfz16_1
                  try clear hfz18_0
                  try clear hfz18_1
                  try clear hfz24_0
                  try clear hfz24_1
                  try clear hfz31_0
                  try clear hfz31_1
                  try clear hfz33_0
                  try clear hfz33_1
                  try clear hfz37_0
                  try clear hfz37_1
                  try clear hx274_0
                  try clear hx274_1
                  try clear hx274_2
                  try clear hx274_3
                  try clear p2
                  try clear p274
                  try clear q274
                  obtain ⟨kq, x74_29, rfl, HA, HJ29, HO_267000, BK266, HB⟩ := hcut
                  cases kq with
                  | zero => exact absurd HA.out (by simp [heronrylaw09_TreeWithin.j1])
                  | succ kj29 =>
                    have H := HA.out
                    clear HA
                    simp only [heronrylaw09_TreeWithin.j1] at H
                    by_cases c39 : x74_29 = true
                    · subst c39
                      have H1 : (some false) = some r := by rw [if_pos rfl] at H; exact H
                      clear H
                      have H := H1
                      clear H1
                      obtain rfl := Option.some.inj H
                      exact absurd hT_.out (by decide)
                    · replace c39 := Bool.eq_false_iff.mpr c39
                      subst c39
                      have H1 : (if t273 = true then ((tree_Top.f t262 t265 x9_1).bind fun t276 => ((tree_Top.f t262 t265 (ji27)).bind fun t277 => (if t276 = t277 then (heronrylaw09_TreeWithin.l0 kj29 t261 (ji27) (wrap64 (x8_1 + 1)) (wrap64 (x9_1 + 1)) t262 t265) else (some false)))) else (heronrylaw09_TreeWithin.l0 kj29 t261 (ji27) x8_1 (wrap64 (x9_1 + 1)) t262 t265)) = some r := by rw [if_neg (show ¬ (false = true) by decide)] at H; exact H
                      clear H
                      have H := H1
                      clear H1
                      by_cases c40 : t273 = true
                      · subst c40
                        have H1 : ((tree_Top.f t262 t265 x9_1).bind fun t276 => ((tree_Top.f t262 t265 (ji27)).bind fun t277 => (if t276 = t277 then (heronrylaw09_TreeWithin.l0 kj29 t261 (ji27) (wrap64 (x8_1 + 1)) (wrap64 (x9_1 + 1)) t262 t265) else (some false)))) = some r := by rw [if_pos rfl] at H; exact H
                        clear H
                        have H := H1
                        clear H1
                        replace H := Option.bind_eq_some_iff.mp H
                        obtain ⟨t276, A410, H⟩ := H
                        replace H : ((tree_Top.f t262 t265 (ji27)).bind fun t277 => (if t276 = t277 then (heronrylaw09_TreeWithin.l0 kj29 t261 (ji27) (wrap64 (x8_1 + 1)) (wrap64 (x9_1 + 1)) t262 t265) else (some false))) = some r := H
                        have A41 := Aside0.mk A410
                        clear A410
                        replace H := Option.bind_eq_some_iff.mp H
                        obtain ⟨t277, A420, H⟩ := H
                        replace H : (if t276 = t277 then (heronrylaw09_TreeWithin.l0 kj29 t261 (ji27) (wrap64 (x8_1 + 1)) (wrap64 (x9_1 + 1)) t262 t265) else (some false)) = some r := H
                        have A42 := Aside0.mk A420
                        clear A420
                        by_cases c43 : t276 = t277
                        · rw [if_pos c43] at H
                          have c43b0 : (t276 == t277) = true := beq_iff_eq.mpr c43
                          have c43b1 : (t276 != t277) = false := bne_eq_false_iff_eq.mpr c43
                          clear c43
                          have H' := Aside0.mk H
                          clear H
                          try go_wp2
                          have n0_ := Aside0.mk (Kd.R_drew HO_267000.out)
                          have n1_ := Aside0.mk (blk_drew BK266.out)
                          have n2_ := Aside0.mk (below_drew1 HB.out)
                          clear HO_267000
                          clear BK266
                          clear HB
                          have HO_267000 := n0_
                          have BK266 := n1_
                          have HB := n2_
                          clear n0_ n1_ n2_
                          refine start_ (n := 7) (S := fun w' => w'.cell? ⟨gb266, 0, none⟩ = some (.slice (some ad274) t262.length co23) ∧ w'.cell? ⟨gb266, 1, none⟩ = some (.int .i64 t265)) (ds := []) #[false, false, false, false, false, false, false] (by kernel_rfl) rfl rfl ⟨(blk_cell BK266.out 0).trans rfl, (blk_cell BK266.out 1).trans rfl⟩ (fun hHeld => ?_)
                          generalize wc.drew = w44 at HO_267000 BK266 HB hHeld ⊢
                          refine pure_ (i := 1) (N := some 79) (v := ?_) (a' := ?_) #[false, true, false, false, false, false, false] rfl rfl (by kernel_rfl) (fun _ _ _ h => h) (Or.inl ⟨by rfl, ?_⟩) ?_ ?_
                          rotate_left
                          · intro w'
                            go_simp
                            with_reducible rfl
                          rotate_left
                          · simp only [Act.put, List.setIfInBounds_toArray, List.set_cons_zero, List.set_cons_succ, i64_w, i32_w]
                            rfl
                          refine pure_ (i := 4) (N := some 82) (v := ?_) (a' := ?_) #[false, true, false, false, true, false, false] rfl rfl (by kernel_rfl) (fun _ _ _ h => h) (Or.inl ⟨by rfl, ?_⟩) ?_ ?_
                          rotate_left
                          · intro w'
                            go_simp
                            with_reducible rfl
                          rotate_left
                          · simp only [Act.put, List.setIfInBounds_toArray, List.set_cons_zero, List.set_cons_succ, i64_w, i32_w]
                            rfl
                          refine take_ (i := 0) (N := some 78) (v := ?_) (a' := ?_) #[true, true, false, false, true, false, false] rfl rfl (by kernel_rfl) (fun _ _ _ h => h) (Or.inl ⟨by rfl, ?_⟩) hHeld ?_ ?_
                          rotate_left
                          · rintro w' ⟨s0, s1⟩
                            go_simp
                            with_reducible rfl
                          rotate_left
                          · simp only [Act.put, List.setIfInBounds_toArray, List.set_cons_zero, List.set_cons_succ, i64_w, i32_w]
                            rfl
                          refine take_ (i := 3) (N := some 81) (v := ?_) (a' := ?_) #[true, true, false, true, true, false, false] rfl rfl (by kernel_rfl) (fun _ _ _ h => h) (Or.inl ⟨by rfl, ?_⟩) hHeld ?_ ?_
                          rotate_left
                          · rintro w' ⟨s0, s1⟩
                            go_simp
                            with_reducible rfl
                          rotate_left
                          · simp only [Act.put, List.setIfInBounds_toArray, List.set_cons_zero, List.set_cons_succ, i64_w, i32_w]
                            rfl
                          refine one_ (i := 2) (N := some 80) #[true, true, true, true, true, false, false] rfl rfl (by kernel_rfl) (by decide) (fun K hK => ?_)
                          refine goes_ Try.func14 (by kernel_rfl) rfl #[.agg #[.slice (some ad274) t262.length co23, .int .i64 t265], .int .i64 x9_1] (by rfl) rfl rfl (by (try simp only [List.map_toArray, List.map_cons, List.map_nil]); first | done | rfl | (simp only [List.length_drop, List.length_take]; rfl)) ?_
                          with_reducible refine (tree_Top.calls _ _ t262 t265 x9_1 t276 _ ?side1 ?side2 A41.out).mono ?_
                          (case side1 => repeat (first | exact (Kd.R_reads' HO_267000.out).2.2 | (with_reducible refine Kd.C_alloc ?_ _) | (with_reducible refine Kd.C_drewN ?_ _) | (with_reducible refine Kd.C_drew ?_)))
                          (case side2 => exact (Kd.R_reads' HO_267000.out).2.1)
                          rintro e w45 ⟨rfl, hb⟩
                          refine ⟨_, rfl, ?_⟩
                          have n0_ := Aside0.mk (Kd.R_below (by (with_reducible repeat (first | apply Kd.R_alloc | apply Kd.R_drewN | apply Kd.R_drew)); exact HO_267000.out) hb)
                          have n1_ := Aside0.mk (blk_below (g := gb266) (o := .cells #[.slice (some ad274) t262.length co23, .int .i64 t265] 26 (0, 0)) (by (with_reducible repeat (first | refine blk_drewN ?_ _ | refine blk_drew ?_ | refine blk_alloc ?_ _)); exact BK266.out) hb)
                          have n2_ := Aside0.mk (below_step (by repeat (first | (with_reducible first | exact HB.out | apply below_alloc | apply pw_below_drewN | apply below_drew1 | refine below_set ?_ GE266.out) | exact HB.out)) hb)
                          clear HO_267000
                          clear BK266
                          clear HB
                          have HO_267000 := n0_
                          have BK266 := n1_
                          have HB := n2_
                          clear n0_ n1_ n2_
                          (try clear hb)
                          (try clear hb2)
                          (try clear hk)
                          (try clear hi)
                          refine hK.out _ _ ⟨(blk_cell BK266.out 0).trans rfl, (blk_cell BK266.out 1).trans rfl⟩ (fun hHeld => ?_)
                          clear hK K
                          refine norm_ (a' := ?_) ?_ ?_
                          rotate_left
                          · show Act.put _ (some 80) _ = _
                            simp only [Act.put, List.setIfInBounds_toArray, List.set_cons_zero, List.set_cons_succ, i64_w, i32_w]
                            rfl
                          refine one_ (i := 5) (N := some 83) #[true, true, true, true, true, true, false] rfl rfl (by kernel_rfl) (by decide) (fun K hK => ?_)
                          refine goes_ Try.func14 (by kernel_rfl) rfl #[.agg #[.slice (some ad274) t262.length co23, .int .i64 t265], .int .i64 (ji27)] (by rfl) rfl rfl (by (try simp only [List.map_toArray, List.map_cons, List.map_nil]); first | done | (simp only [hji27]; rfl) | rfl | (simp only [List.length_drop, List.length_take]; rfl)) ?_
                          with_reducible refine (tree_Top.calls _ _ t262 t265 (ji27) t277 _ ?side1 ?side2 A42.out).mono ?_
                          (case side1 => repeat (first | exact (Kd.R_reads' HO_267000.out).2.2 | (with_reducible refine Kd.C_alloc ?_ _) | (with_reducible refine Kd.C_drewN ?_ _) | (with_reducible refine Kd.C_drew ?_)))
                          (case side2 => exact (Kd.R_reads' HO_267000.out).2.1)
                          rintro e w46 ⟨rfl, hb⟩
                          refine ⟨_, rfl, ?_⟩
                          have n0_ := Aside0.mk (Kd.R_below (by (with_reducible repeat (first | apply Kd.R_alloc | apply Kd.R_drewN | apply Kd.R_drew)); exact HO_267000.out) hb)
                          have n1_ := Aside0.mk (blk_below (g := gb266) (o := .cells #[.slice (some ad274) t262.length co23, .int .i64 t265] 26 (0, 0)) (by (with_reducible repeat (first | refine blk_drewN ?_ _ | refine blk_drew ?_ | refine blk_alloc ?_ _)); exact BK266.out) hb)
                          have n2_ := Aside0.mk (below_step (by repeat (first | (with_reducible first | exact HB.out | apply below_alloc | apply pw_below_drewN | apply below_drew1 | refine below_set ?_ GE266.out) | exact HB.out)) hb)
                          clear HO_267000
                          clear BK266
                          clear HB
                          have HO_267000 := n0_
                          have BK266 := n1_
                          have HB := n2_
                          clear n0_ n1_ n2_
                          (try clear hb)
                          (try clear hb2)
                          (try clear hk)
                          (try clear hi)
                          refine hK.out _ _ ⟨(blk_cell BK266.out 0).trans rfl, (blk_cell BK266.out 1).trans rfl⟩ (fun hHeld => ?_)
                          clear hK K
                          refine norm_ (a' := ?_) ?_ ?_
                          rotate_left
                          · show Act.put _ (some 83) _ = _
                            simp only [Act.put, List.setIfInBounds_toArray, List.set_cons_zero, List.set_cons_succ, i64_w, i32_w]
                            rfl
                          refine pure_ (i := 6) (N := some 84) (v := ?_) (a' := ?_) #[true, true, true, true, true, true, true] rfl rfl (by kernel_rfl) (fun _ _ _ h => h) (Or.inl ⟨by rfl, ?_⟩) ?_ ?_
                          rotate_left
                          · intro w'
                            go_simp
                            with_reducible rfl
                          rotate_left
                          · simp only [Act.put, List.setIfInBounds_toArray, List.set_cons_zero, List.set_cons_succ, i64_w, i32_w]
                            rfl
                          refine done_ (by kernel_rfl) ?_
                          try go_wp2
                          subst hji27
                          go_roundg kj29
                          case measure => have := HK1.out; have := HJ29.out; omega
                          case rel => exact ⟨(wrap64 (x8_1 + 1)), (wrap64 (x9_1 + 1)), (by first | rfl | (simp; done) | (simp [*]; done)), (by first | rfl | (simp; done) | (simp [*]; done)), H', ⟨by have := HK1.out; have := HJ29.out; omega⟩, ⟨by (with_reducible repeat (first | apply Kd.R_alloc | apply Kd.R_drewN | apply Kd.R_drew)); exact HO_267000.out⟩, ⟨by (with_reducible repeat (first | refine blk_drewN ?_ _ | refine blk_drew ?_ | refine blk_alloc ?_ _)); exact BK266.out⟩, ⟨by repeat (first | (with_reducible first | exact HB.out | apply below_alloc | apply pw_below_drewN | apply below_drew1 | refine below_set ?_ GE266.out) | exact HB.out)⟩⟩
                        · rw [if_neg c43] at H
                          have c43b0 : (t276 == t277) = false := beq_eq_false_iff_ne.mpr c43
                          have c43b1 : (t276 != t277) = true := bne_iff_ne.mpr c43
                          obtain rfl := Option.some.inj H
                          exact absurd hT_.out (by decide)
                      · replace c40 := Bool.eq_false_iff.mpr c40
                        subst c40
                        have H1 : (heronrylaw09_TreeWithin.l0 kj29 t261 (ji27) x8_1 (wrap64 (x9_1 + 1)) t262 t265) = some r := by rw [if_neg (show ¬ (false = true) by decide)] at H; exact H
                        clear H
                        have H := H1
                        clear H1
                        have H' := Aside0.mk H
                        clear H
                        go_wp2
                        subst hji27
                        go_roundg kj29
                        case measure => have := HK1.out; have := HJ29.out; omega
                        case rel => exact ⟨(x8_1), (wrap64 (x9_1 + 1)), (by first | rfl | (simp; done) | (simp [*]; done)), (by first | rfl | (simp; done) | (simp [*]; done)), H', ⟨by have := HK1.out; have := HJ29.out; omega⟩, ⟨by (with_reducible repeat (first | apply Kd.R_alloc | apply Kd.R_drewN | apply Kd.R_drew)); exact HO_267000.out⟩, ⟨by (with_reducible repeat (first | refine blk_drewN ?_ _ | refine blk_drew ?_ | refine blk_alloc ?_ _)); exact BK266.out⟩, ⟨by repeat (first | (with_reducible first | exact HB.out | apply below_alloc | apply pw_below_drewN | apply below_drew1 | refine below_set ?_ GE266.out) | exact HB.out)⟩⟩
              · rw [if_neg c29] at H
                exact absurd H (by simp)
            · rw [if_neg c28] at H
              exact absurd H (by simp)
          · rw [if_neg c25] at H
            have c25b0 : decide (x9_1 < (t262.length : Int)) = false := decide_eq_false c25
            clear c25
            replace H := Option.bind_eq_some_iff.mp H
            obtain ⟨t269, A470, H⟩ := H
            replace H : (if t261 = true then ((tree_Deep.f t262 t265 (Int.tmod (Go.bits .and .i64 a1 65535) (t262.length : Int))).bind fun t270 => (if t270 = x8_1 then (if t269 ≥ 0 then (if t269 < (t262.length : Int) then (if 0 ≤ t269 then (if ((rd_T35 t262 t269).f0) = (-1) then ((tree_Within.f t262 t265 (Int.tmod (Go.bits .and .i64 a1 65535) (t262.length : Int)) t269).bind fun t272 => (some t272)) else (some false)) else (none)) else (some false)) else (some false)) else (some false))) else (some false)) = some r := H
            have A47 := Aside0.mk A470
            clear A470
            by_cases c48 : t261 = true
            · subst c48
              have H1 : ((tree_Deep.f t262 t265 (Int.tmod (Go.bits .and .i64 a1 65535) (t262.length : Int))).bind fun t270 => (if t270 = x8_1 then (if t269 ≥ 0 then (if t269 < (t262.length : Int) then (if 0 ≤ t269 then (if ((rd_T35 t262 t269).f0) = (-1) then ((tree_Within.f t262 t265 (Int.tmod (Go.bits .and .i64 a1 65535) (t262.length : Int)) t269).bind fun t272 => (some t272)) else (some false)) else (none)) else (some false)) else (some false)) else (some false))) = some r := by rw [if_pos rfl] at H; exact H
              clear H
              have H := H1
              clear H1
              replace H := Option.bind_eq_some_iff.mp H
              obtain ⟨t270, A490, H⟩ := H
              replace H : (if t270 = x8_1 then (if t269 ≥ 0 then (if t269 < (t262.length : Int) then (if 0 ≤ t269 then (if ((rd_T35 t262 t269).f0) = (-1) then ((tree_Within.f t262 t265 (Int.tmod (Go.bits .and .i64 a1 65535) (t262.length : Int)) t269).bind fun t272 => (some t272)) else (some false)) else (none)) else (some false)) else (some false)) else (some false)) = some r := H
              have A49 := Aside0.mk A490
              clear A490
              by_cases c50 : t270 = x8_1
              · rw [if_pos c50] at H
                have c50b0 : (t270 == x8_1) = true := beq_iff_eq.mpr c50
                have c50b1 : (t270 != x8_1) = false := bne_eq_false_iff_eq.mpr c50
                clear c50
                by_cases c51 : t269 ≥ 0
                · rw [if_pos c51] at H
                  have c51b0 : decide (0 ≤ t269) = true := decide_eq_true c51
                  clear c51
                  by_cases c52 : t269 < (t262.length : Int)
                  · rw [if_pos c52] at H
                    have c52b0 : decide (t269 < (t262.length : Int)) = true := decide_eq_true c52
                    clear c52
                    by_cases c53 : 0 ≤ t269
                    · rw [if_pos c53] at H
                      have c53b0 : decide (0 ≤ t269) = true := decide_eq_true c53
                      clear c53
                      by_cases c54 : ((rd_T35 t262 t269).f0) = (-1)
                      · rw [if_pos c54] at H
                        have c54b0 : (((rd_T35 t262 t269).f0) == (-1)) = true := beq_iff_eq.mpr c54
                        have c54b1 : (((rd_T35 t262 t269).f0) != (-1)) = false := bne_eq_false_iff_eq.mpr c54
                        clear c54
                        replace H := Option.bind_eq_some_iff.mp H
                        obtain ⟨t272, A550, H⟩ := H
                        replace H : (some t272) = some r := H
                        have A55 := Aside0.mk A550
                        clear A550
                        obtain rfl := Option.some.inj H
                        have hcz56_0 : wr.cell? ⟨gb266, 0, none⟩ = some (.slice Ao23 t262.length co23) := (blk_cell BK266.out 0).trans rfl
                        have hcz56_1 : wr.cell? ⟨gb266, 1, none⟩ = some (.int .i64 t265) := (blk_cell BK266.out 1).trans rfl
                        have hfz56_0 := blk_frozen BK266.out 0
                        have hfz56_1 := blk_frozen BK266.out 1
                        go_wp2_with (first | ((with_reducible refine gate_callee (f := 14) rfl ?_); refine goesL_ (some 87) rfl rfl Try.func14 (by kernel_rfl) rfl #[.agg #[.slice Ao23 t262.length co23, .int .i64 t265], .int .i64 (Int.tmod (Go.bits .and .i64 a1 65535) (t262.length : Int))] rfl (by (try simp only [List.map_toArray, List.map_cons, List.map_nil]); first | done | rfl | (simp only [List.length_drop, List.length_take]; rfl)) ?_; (with_reducible refine (tree_Top.calls _ _ t262 t265 (Int.tmod (Go.bits .and .i64 a1 65535) (t262.length : Int)) t269 _ ?side1 ?side2 A47.out).mono ?_); (case side1 => repeat (first | exact (Kd.R_reads' HO_267000.out).2.2 | (with_reducible refine Kd.C_alloc ?_ _) | (with_reducible refine Kd.C_drewN ?_ _) | (with_reducible refine Kd.C_drew ?_))); (case side2 => exact (Kd.R_reads' HO_267000.out).2.1); rintro e w57 ⟨rfl, hb⟩; refine ⟨_, rfl, ?_⟩; have n0_ := Aside0.mk (Kd.R_below (by (with_reducible repeat (first | apply Kd.R_alloc | apply Kd.R_drewN | apply Kd.R_drew)); exact HO_267000.out) hb); have n1_ := Aside0.mk (blk_below (g := gb266) (o := .cells #[.slice Ao23 t262.length co23, .int .i64 t265] 26 (0, 0)) (by (with_reducible repeat (first | refine blk_drewN ?_ _ | refine blk_drew ?_ | refine blk_alloc ?_ _)); exact BK266.out) hb); have n2_ := Aside0.mk (below_step (by repeat (first | (with_reducible first | exact HB.out | apply below_alloc | apply pw_below_drewN | apply below_drew1 | refine below_set ?_ GE266.out) | exact HB.out)) hb); clear HO_267000; clear BK266; clear HB; have HO_267000 := n0_; have BK266 := n1_; have HB := n2_; clear n0_ n1_ n2_; (try clear hb); (try clear hb2); (try clear hk); (try clear hi); have hcz58_0 : w57.cell? ⟨gb266, 0, none⟩ = some (.slice Ao23 t262.length co23) := (blk_cell BK266.out 0).trans rfl; have hcz58_1 : w57.cell? ⟨gb266, 1, none⟩ = some (.int .i64 t265) := (blk_cell BK266.out 1).trans rfl; have hfz58_0 := blk_frozen BK266.out 0; have hfz58_1 := blk_frozen BK266.out 1) | (go_at_call 13; (with_reducible refine (tree_Deep.calls _ _ t262 t265 (Int.tmod (Go.bits .and .i64 a1 65535) (t262.length : Int)) t270 _ ?side1 ?side2 A49.out).mono ?_); (case side1 => repeat (first | exact (Kd.R_reads' HO_267000.out).2.2 | (with_reducible refine Kd.C_alloc ?_ _) | (with_reducible refine Kd.C_drewN ?_ _) | (with_reducible refine Kd.C_drew ?_))); (case side2 => exact (Kd.R_reads' HO_267000.out).2.1); rintro e w59 ⟨rfl, hb⟩; have n0_ := Aside0.mk (Kd.R_below (by (with_reducible repeat (first | apply Kd.R_alloc | apply Kd.R_drewN | apply Kd.R_drew)); exact HO_267000.out) hb); have n1_ := Aside0.mk (blk_below (g := gb266) (o := .cells #[.slice Ao23 t262.length co23, .int .i64 t265] 26 (0, 0)) (by (with_reducible repeat (first | refine blk_drewN ?_ _ | refine blk_drew ?_ | refine blk_alloc ?_ _)); exact BK266.out) hb); have n2_ := Aside0.mk (below_step (by repeat (first | (with_reducible first | exact HB.out | apply below_alloc | apply pw_below_drewN | apply below_drew1 | refine below_set ?_ GE266.out) | exact HB.out)) hb); clear HO_267000; clear BK266; clear HB; have HO_267000 := n0_; have BK266 := n1_; have HB := n2_; clear n0_ n1_ n2_; (try clear hb); (try clear hb2); (try clear hk); (try clear hi); have hcz60_0 : w59.cell? ⟨gb266, 0, none⟩ = some (.slice Ao23 t262.length co23) := (blk_cell BK266.out 0).trans rfl; have hcz60_1 : w59.cell? ⟨gb266, 1, none⟩ = some (.int .i64 t265) := (blk_cell BK266.out 1).trans rfl; have hfz60_0 := blk_frozen BK266.out 0; have hfz60_1 := blk_frozen BK266.out 1; have p271 : 0 ≤ (t269 : Int) := of_decide_eq_true (by first | (with_reducible assumption) | assumption); have q271 : t269 < (t262.length : Int) := of_decide_eq_true (by first | (with_reducible assumption) | assumption); obtain ⟨ad271, e271, hx271_0, hx271_1, hx271_2, hx271_3⟩ := at_T35 (Kd.R_reads' HO_267000.out).2.2 t269 p271 q271; cases e271; replace p271 := eq_true p271; replace q271 := eq_true q271) | (go_at_call 12; (with_reducible refine (tree_Within.calls _ _ t262 t265 (Int.tmod (Go.bits .and .i64 a1 65535) (t262.length : Int)) t269 t272 _ ?side1 ?side2 A55.out).mono ?_); (case side1 => repeat (first | exact (Kd.R_reads' HO_267000.out).2.2 | (with_reducible refine Kd.C_alloc ?_ _) | (with_reducible refine Kd.C_drewN ?_ _) | (with_reducible refine Kd.C_drew ?_))); (case side2 => exact (Kd.R_reads' HO_267000.out).2.1); rintro e w61 ⟨rfl, hb⟩; have n0_ := Aside0.mk (Kd.R_below (by (with_reducible repeat (first | apply Kd.R_alloc | apply Kd.R_drewN | apply Kd.R_drew)); exact HO_267000.out) hb); have n1_ := Aside0.mk (blk_below (g := gb266) (o := .cells #[.slice (some ad271) t262.length co23, .int .i64 t265] 26 (0, 0)) (by (with_reducible repeat (first | refine blk_drewN ?_ _ | refine blk_drew ?_ | refine blk_alloc ?_ _)); exact BK266.out) hb); have n2_ := Aside0.mk (below_step (by repeat (first | (with_reducible first | exact HB.out | apply below_alloc | apply pw_below_drewN | apply below_drew1 | refine below_set ?_ GE266.out) | exact HB.out)) hb); clear HO_267000; clear BK266; clear HB; have HO_267000 := n0_; have BK266 := n1_; have HB := n2_; clear n0_ n1_ n2_; (try clear hb); (try clear hb2); (try clear hk); (try clear hi)))
                        go_ret
                        exact ⟨by first | rfl | (simp [errW_none, errW_some] <;> rfl) | (simp [*, errW_none, errW_some] <;> rfl), by repeat (first | (with_reducible first | exact HB.out | apply below_alloc | apply pw_below_drewN | apply below_drew1 | refine below_set ?_ GE266.out) | exact HB.out)⟩
                      · rw [if_neg c54] at H
                        have c54b0 : (((rd_T35 t262 t269).f0) == (-1)) = false := beq_eq_false_iff_ne.mpr c54
                        have c54b1 : (((rd_T35 t262 t269).f0) != (-1)) = true := bne_iff_ne.mpr c54
                        obtain rfl := Option.some.inj H
                        exact absurd hT_.out (by decide)
                    · rw [if_neg c53] at H
                      exact absurd H (by simp)
                  · rw [if_neg c52] at H
                    have c52b0 : decide (t269 < (t262.length : Int)) = false := decide_eq_false c52
                    clear c52
                    obtain rfl := Option.some.inj H
                    exact absurd hT_.out (by decide)
                · rw [if_neg c51] at H
                  have c51b0 : decide (0 ≤ t269) = false := decide_eq_false c51
                  clear c51
                  obtain rfl := Option.some.inj H
                  exact absurd hT_.out (by decide)
              · rw [if_neg c50] at H
                have c50b0 : (t270 == x8_1) = false := beq_eq_false_iff_ne.mpr c50
                have c50b1 : (t270 != x8_1) = true := bne_iff_ne.mpr c50
                obtain rfl := Option.some.inj H
                exact absurd hT_.out (by decide)
            · replace c48 := Bool.eq_false_iff.mpr c48
              subst c48
              have H1 : (some false) = some r := by rw [if_neg (show ¬ (false = true) by decide)] at H; exact H
              clear H
              have H := H1
              clear H1
              obtain rfl := Option.some.inj H
              exact absurd hT_.out (by decide)

end Go.Proofs.Ytnlnglfjehohpaa.Q
