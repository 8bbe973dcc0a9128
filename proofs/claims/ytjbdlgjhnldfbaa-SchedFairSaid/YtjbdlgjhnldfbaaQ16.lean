-- Written by hprint.py (the kit's printer, with functions that are given). Lean checks it.
import Derived.Test.YtjbdlgjhnldfbaaQ0
import Derived.Test.YtjbdlgjhnldfbaaQ3
import Derived.Test.YtjbdlgjhnldfbaaQ5
import Derived.Test.YtjbdlgjhnldfbaaQ7
import Derived.Test.YtjbdlgjhnldfbaaQ15
import Derived.Test.YtjbdlgjhnldfbaaFH
namespace Go.Proofs.Ytjbdlgjhnldfbaa.Q
open Go.RowKit Go.Proofs.YtjbdlgjhnldfbaaW.PrintWords Go.Proofs.YtjbdlgjhnldfbaaW.PrintLast Go.Proofs.YtjbdlgjhnldfbaaW.PrintMore
attribute [local go_sem] max2_int min2_int max_two min_two max_three min_three max_four min_four   -- for this text's walks alone
set_option linter.unusedVariables false
set_option linter.unusedSimpArgs false

/-! ### heronrylaw21_SchedFair: function 5 -/
mutual
def heronrylaw21_SchedFair.l0 : Nat → List Int → Bool → Int → List Int → Int → List (S44) → Int → Option (Bool)
  | 0, _, _, _, _, _, _, _ => none
  | k + 1, x2, x7, x9, x11, x12, x263000, x263001 => if x12 < x9 then ((float_Of.f 5).bind fun t263 => (if x12 = (wrap64 (x9 - 1)) then ((sched_Add.f k x263000 x263001 x12 18442240474082181120).bind fun bt264 => (if bt264.2.2 = 0 then (if x11.length < 17592186044416 then (heronrylaw21_SchedFair.l0 k x2 x7 x9 (x11 ++ [x12]) (wrap64 (x12 + 1)) bt264.1 bt264.2.1) else (none)) else (some false))) else ((sched_Add.f k x263000 x263001 x12 t263).bind fun bt273 => (if bt273.2.2 = 0 then (if x11.length < 17592186044416 then (heronrylaw21_SchedFair.l0 k x2 x7 x9 (x11 ++ [x12]) (wrap64 (x12 + 1)) bt273.1 bt273.2.1) else (none)) else (some false))))) else ((sched_Bound.f k x263000 x263001).bind fun t282 => (heronrylaw21_SchedFair.l1 k x2 x7 x9 x11 t282 0 x263000 x263001))
def heronrylaw21_SchedFair.l1 : Nat → List Int → Bool → Int → List Int → Int → Int → List (S44) → Int → Option (Bool)
  | 0, _, _, _, _, _, _, _, _ => none
  | k + 1, x2, x7, x9, x11, x16, x17, x263000, x263001 => if x17 < x16 then ((sched_Pick.f k x263000 x263001 x11).bind fun bt283 => (if bt283.2.2.2 = 0 then (if bt283.2.2.1 = (wrap64 (x9 - 1)) then (some x7) else ((float_Of.f 9).bind fun t290 => (if x17 < (x2.length : Int) then (if 0 ≤ x17 then ((float_Class.f (rd x2 x17)).bind fun t292 => (heronrylaw21_SchedFair.j2 k x2 x7 x9 x11 x16 x17 bt283.2.2.1 t290 (t292 != 4) bt283.1 bt283.2.1)) else (none)) else (heronrylaw21_SchedFair.j2 k x2 x7 x9 x11 x16 x17 bt283.2.2.1 t290 false bt283.1 bt283.2.1)))) else (some false))) else (some false)
def heronrylaw21_SchedFair.j2 : Nat → List Int → Bool → Int → List Int → Int → Int → Int → Int → Bool → List (S44) → Int → Option (Bool)
  | 0, _, _, _, _, _, _, _, _, _, _, _ => none
  | k + 1, x2, x7, x9, x11, x16, x17, x19, x21, x94, x290000, x290001 => if x94 = true then (if 0 ≤ x17 then (if x17 < (x2.length : Int) then ((sched_Add.f k x290000 x290001 x19 (rd x2 x17)).bind fun bt294 => (if bt294.2.2 = 0 then (heronrylaw21_SchedFair.l1 k x2 x7 x9 x11 x16 (wrap64 (x17 + 1)) bt294.1 bt294.2.1) else (some false))) else (none)) else (none)) else ((sched_Add.f k x290000 x290001 x19 x21).bind fun bt300 => (if bt300.2.2 = 0 then (heronrylaw21_SchedFair.l1 k x2 x7 x9 x11 x16 (wrap64 (x17 + 1)) bt300.1 bt300.2.1) else (some false)))
end
def heronrylaw21_SchedFair.f (k : Nat) (a0 : Int) (a1 : Int) (l2 : List Int) : Option (Bool) := (heronrylaw21_awake.f k).bind fun t261 => (if (l2.length : Int) > 100 then (some t261) else (heronrylaw21_SchedFair.l0 k l2 t261 (wrap64 (1 + (Go.bits .and .i64 a1 15))) ([] : List Int) 0 ([] : List (S44)) (wrap64 (1 + (Go.bits .and .i64 a0 15)))))
theorem heronrylaw21_SchedFair.mono_l : ∀ k, (∀ y0 y1 y2 y3 y4 y5 y6, LeO (heronrylaw21_SchedFair.l0 k y0 y1 y2 y3 y4 y5 y6) (heronrylaw21_SchedFair.l0 (k + 1) y0 y1 y2 y3 y4 y5 y6)) ∧ (∀ y0 y1 y2 y3 y4 y5 y6 y7, LeO (heronrylaw21_SchedFair.l1 k y0 y1 y2 y3 y4 y5 y6 y7) (heronrylaw21_SchedFair.l1 (k + 1) y0 y1 y2 y3 y4 y5 y6 y7)) ∧ (∀ y0 y1 y2 y3 y4 y5 y6 y7 y8 y9 y10, LeO (heronrylaw21_SchedFair.j2 k y0 y1 y2 y3 y4 y5 y6 y7 y8 y9 y10) (heronrylaw21_SchedFair.j2 (k + 1) y0 y1 y2 y3 y4 y5 y6 y7 y8 y9 y10))
  | 0 => ⟨fun _ _ _ _ _ _ _ r h => by simp [heronrylaw21_SchedFair.l0] at h, fun _ _ _ _ _ _ _ _ r h => by simp [heronrylaw21_SchedFair.l1] at h, fun _ _ _ _ _ _ _ _ _ _ _ r h => by simp [heronrylaw21_SchedFair.j2] at h⟩
  | k + 1 => by
    obtain ⟨ih0, ih1, ih2⟩ := heronrylaw21_SchedFair.mono_l k
    refine ⟨?_, ?_, ?_⟩
    · intro y0 y1 y2 y3 y4 y5 y6
      unfold heronrylaw21_SchedFair.l0
      repeat' first
      | (with_reducible exact ih0 _ _ _ _ _ _ _)
      | (with_reducible exact ih1 _ _ _ _ _ _ _ _)
      | (with_reducible exact ih2 _ _ _ _ _ _ _ _ _ _ _)
      | (with_reducible exact heronrylaw21_awake.mono _)
      | (with_reducible exact sched_Add.mono _ _ _ _ _)
      | (with_reducible exact sched_Bound.mono _ _ _)
      | (with_reducible exact sched_Pick.mono _ _ _ _)
      | (with_reducible exact LeO.refl _)
      | (with_reducible exact LeO.none _)
      | (with_reducible refine LeO.ite ?_ ?_)
      | (with_reducible refine LeO.bind ?_ (fun _ => ?_))
      | exact ih0 _ _ _ _ _ _ _
      | exact ih1 _ _ _ _ _ _ _ _
      | exact ih2 _ _ _ _ _ _ _ _ _ _ _
      | exact heronrylaw21_awake.mono _
      | exact sched_Add.mono _ _ _ _ _
      | exact sched_Bound.mono _ _ _
      | exact sched_Pick.mono _ _ _ _
      | exact LeO.none _
      | refine LeO.ite ?_ ?_
      | refine LeO.bind ?_ (fun _ => ?_)
    · intro y0 y1 y2 y3 y4 y5 y6 y7
      unfold heronrylaw21_SchedFair.l1
      repeat' first
      | (with_reducible exact ih0 _ _ _ _ _ _ _)
      | (with_reducible exact ih1 _ _ _ _ _ _ _ _)
      | (with_reducible exact ih2 _ _ _ _ _ _ _ _ _ _ _)
      | (with_reducible exact heronrylaw21_awake.mono _)
      | (with_reducible exact sched_Add.mono _ _ _ _ _)
      | (with_reducible exact sched_Bound.mono _ _ _)
      | (with_reducible exact sched_Pick.mono _ _ _ _)
      | (with_reducible exact LeO.refl _)
      | (with_reducible exact LeO.none _)
      | (with_reducible refine LeO.ite ?_ ?_)
      | (with_reducible refine LeO.bind ?_ (fun _ => ?_))
      | exact ih0 _ _ _ _ _ _ _
      | exact ih1 _ _ _ _ _ _ _ _
      | exact ih2 _ _ _ _ _ _ _ _ _ _ _
      | exact heronrylaw21_awake.mono _
      | exact sched_Add.mono _ _ _ _ _
      | exact sched_Bound.mono _ _ _
      | exact sched_Pick.mono _ _ _ _
      | exact LeO.none _
      | refine LeO.ite ?_ ?_
      | refine LeO.bind ?_ (fun _ => ?_)
    · intro y0 y1 y2 y3 y4 y5 y6 y7 y8 y9 y10
      unfold heronrylaw21_SchedFair.j2
      repeat' first
      | (with_reducible exact ih0 _ _ _ _ _ _ _)
      | (with_reducible exact ih1 _ _ _ _ _ _ _ _)
      | (with_reducible exact ih2 _ _ _ _ _ _ _ _ _ _ _)
      | (with_reducible exact heronrylaw21_awake.mono _)
      | (with_reducible exact sched_Add.mono _ _ _ _ _)
      | (with_reducible exact sched_Bound.mono _ _ _)
      | (with_reducible exact sched_Pick.mono _ _ _ _)
      | (with_reducible exact LeO.refl _)
      | (with_reducible exact LeO.none _)
      | (with_reducible refine LeO.ite ?_ ?_)
      | (with_reducible refine LeO.bind ?_ (fun _ => ?_))
      | exact ih0 _ _ _ _ _ _ _
      | exact ih1 _ _ _ _ _ _ _ _
      | exact ih2 _ _ _ _ _ _ _ _ _ _ _
      | exact heronrylaw21_awake.mono _
      | exact sched_Add.mono _ _ _ _ _
      | exact sched_Bound.mono _ _ _
      | exact sched_Pick.mono _ _ _ _
      | exact LeO.none _
      | refine LeO.ite ?_ ?_
      | refine LeO.bind ?_ (fun _ => ?_)
theorem heronrylaw21_SchedFair.mono : ∀ a0 a1 a2 k, LeO (heronrylaw21_SchedFair.f k a0 a1 a2) (heronrylaw21_SchedFair.f (k + 1) a0 a1 a2) := by
  intro a0 a1 a2 k
  obtain ⟨ih0, ih1, ih2⟩ := heronrylaw21_SchedFair.mono_l k
  unfold heronrylaw21_SchedFair.f
  repeat' first
      | (with_reducible exact ih0 _ _ _ _ _ _ _)
      | (with_reducible exact ih1 _ _ _ _ _ _ _ _)
      | (with_reducible exact ih2 _ _ _ _ _ _ _ _ _ _ _)
      | (with_reducible exact heronrylaw21_awake.mono _)
      | (with_reducible exact sched_Add.mono _ _ _ _ _)
      | (with_reducible exact sched_Bound.mono _ _ _)
      | (with_reducible exact sched_Pick.mono _ _ _ _)
      | (with_reducible exact LeO.refl _)
      | (with_reducible exact LeO.none _)
      | (with_reducible refine LeO.ite ?_ ?_)
      | (with_reducible refine LeO.bind ?_ (fun _ => ?_))
      | exact ih0 _ _ _ _ _ _ _
      | exact ih1 _ _ _ _ _ _ _ _
      | exact ih2 _ _ _ _ _ _ _ _ _ _ _
      | exact heronrylaw21_awake.mono _
      | exact sched_Add.mono _ _ _ _ _
      | exact sched_Bound.mono _ _ _
      | exact sched_Pick.mono _ _ _ _
      | exact LeO.none _
      | refine LeO.ite ?_ ?_
      | refine LeO.bind ?_ (fun _ => ?_)
set_option maxHeartbeats 8000000 in
set_option maxRecDepth 100000 in
theorem heronrylaw21_SchedFair.calls (k : Nat) (a0 : Int) (a1 : Int) (A2 : Option Addr) (c2 : Nat) (l2 : List Int) (r : Bool) (w : World) (hT_ : Aside0 (r = true)) (hr2 : Kd.C (Kd.int .u64) w A2 l2.length l2) (hc2 : l2.length ≤ c2) (h : heronrylaw21_SchedFair.f k a0 a1 l2 = some r) :
    Calls Try.prog 5 #[.int .i64 a0, .int .i64 a1, .slice A2 l2.length c2] w fun e w' => e = .returned (.bool r) ∧ Below w.heap.size w w' := by
  have hu26 := Try.underlying26
  have HR2 := Aside0.mk hr2
  have HC2 := Aside0.mk hc2
  clear hr2 hc2
  have HB := Aside0.mk (Below.refl w.heap.size w)
  have H : ((heronrylaw21_awake.f k).bind fun t261 => (if (l2.length : Int) > 100 then (some t261) else (heronrylaw21_SchedFair.l0 k l2 t261 (wrap64 (1 + (Go.bits .and .i64 a1 15))) ([] : List Int) 0 ([] : List (S44)) (wrap64 (1 + (Go.bits .and .i64 a0 15)))))) = some r := h
  clear h
  replace H := Option.bind_eq_some_iff.mp H
  obtain ⟨t261, A40, H⟩ := H
  replace H : (if (l2.length : Int) > 100 then (some t261) else (heronrylaw21_SchedFair.l0 k l2 t261 (wrap64 (1 + (Go.bits .and .i64 a1 15))) ([] : List Int) 0 ([] : List (S44)) (wrap64 (1 + (Go.bits .and .i64 a0 15))))) = some r := H
  have A4 := Aside0.mk A40
  clear A40
  by_cases c5 : (l2.length : Int) > 100
  · rw [if_pos c5] at H
    have c5b0 : decide (100 < (l2.length : Int)) = true := decide_eq_true c5
    have c5b1 : decide (100 < l2.length) = true := decide_eq_true (by omega)
    clear c5
    obtain rfl := Option.some.inj H
    go_enter Try.func5, Try.ntmps5
    go_wp2_with (first | ((with_reducible refine gate_callee (f := 8) rfl ?_); refine goesL_ (some 24) rfl rfl Try.func8 (by kernel_rfl) rfl #[] rfl (by (try simp only [List.map_toArray, List.map_cons, List.map_nil]); first | done | rfl | (simp only [List.length_drop, List.length_take]; rfl)) ?_; (with_reducible refine (heronrylaw21_awake.calls k  t261 _ A4.out).mono ?_); rintro e w6 ⟨rfl, hb⟩; refine ⟨_, rfl, ?_⟩; have n0_ := Aside0.mk (below_step (by repeat (first | (with_reducible first | exact HB.out | apply below_alloc | apply pw_below_drewN | apply below_drew1) | exact HB.out)) hb); clear HB; have HB := n0_; clear n0_; (try clear hb); (try clear hb2); (try clear hk); (try clear hi)))
    go_ret
    exact ⟨by first | rfl | (simp [errW_none, errW_some] <;> rfl) | (simp [*, errW_none, errW_some] <;> rfl), by repeat (first | (with_reducible first | exact HB.out | apply below_alloc | apply pw_below_drewN | apply below_drew1) | exact HB.out)⟩
  · rw [if_neg c5] at H
    have c5b0 : decide (100 < (l2.length : Int)) = false := decide_eq_false c5
    have c5b1 : decide (100 < l2.length) = false := decide_eq_false (by omega)
    clear c5
    have H' := Aside0.mk H
    clear H
    go_enter Try.func5, Try.ntmps5
    go_wp2_with (first | ((with_reducible refine gate_callee (f := 8) rfl ?_); refine goesL_ (some 24) rfl rfl Try.func8 (by kernel_rfl) rfl #[] rfl (by (try simp only [List.map_toArray, List.map_cons, List.map_nil]); first | done | rfl | (simp only [List.length_drop, List.length_take]; rfl)) ?_; (with_reducible refine (heronrylaw21_awake.calls k  t261 _ A4.out).mono ?_); rintro e w7 ⟨rfl, hb⟩; refine ⟨_, rfl, ?_⟩; have n0_ := Aside0.mk (below_step (by repeat (first | (with_reducible first | exact HB.out | apply below_alloc | apply pw_below_drewN | apply below_drew1) | exact HB.out)) hb); clear HB; have HB := n0_; clear n0_; (try clear hb); (try clear hb2); (try clear hk); (try clear hi)) | ((with_reducible refine gate_dst (N := 10) rfl ?_); refine box_event ?hg (N := 10) ?hd (cs := #[.slice none 0 0, .int .i64 0]) (t := 26) ?hr ?_; (case hd => rfl); (case hg => rfl); (case hr => first | (go_simp; done) | (go_simp; rfl)); intro gb262 hg w8 hbox hb; have n0_ := Aside0.mk (below_step (by repeat (first | (with_reducible first | exact HB.out | apply below_alloc | apply pw_below_drewN | apply below_drew1) | exact HB.out)) hb); have n1_ := Aside0.mk (hbox); have n2_ := Aside0.mk ((by rw [hg]; exact (below_size (by repeat (first | (with_reducible first | exact HB.out | apply below_alloc | apply pw_below_drewN | apply below_drew1) | exact HB.out))) : w.heap.size ≤ gb262)); have n3_ := Aside0.mk ((by rw [hg]; exact (below_size (by repeat (first | (with_reducible first | exact HB.out | apply below_alloc | apply pw_below_drewN | apply below_drew1) | exact HB.out))) : w.heap.size ≤ gb262)); clear HB; have HB := n0_; have BK262 := n1_; have GW262 := n2_; have GE262 := n3_; clear n0_ n1_ n2_ n3_; clear hb hbox hg; have hcz9_0 : w8.cell? ⟨gb262, 0, none⟩ = some (.slice none 0 0) := (blk_cell BK262.out 0).trans rfl; have hcz9_1 : w8.cell? ⟨gb262, 1, none⟩ = some (.int .i64 0) := (blk_cell BK262.out 1).trans rfl; have hfz9_0 := blk_frozen BK262.out 0; have hfz9_1 := blk_frozen BK262.out 1))
    go_loopg [11, 12] k (fun kq v11 v12 w' => ∃ (x11_1 : List Int) (x12_1 : Int) (x263000_1 : List (S44)) (x263001_1 : Int) (u263000 : Value), v12 = .int .i64 x12_1 ∧ Aside0 (heronrylaw21_SchedFair.l0 kq l2 t261 (wrap64 (1 + (Go.bits .and .i64 a1 15))) x11_1 x12_1 x263000_1 x263001_1 = some r) ∧ Aside0 (kq ≤ k) ∧ Aside0 (Kd.R (Kd.int .i64) 3 w' w.heap.size (fun _ => True) v11 x11_1) ∧ Aside0 (Kd.R k44 44 w' w.heap.size (fun _ => True) u263000 x263000_1) ∧ Aside0 (w'.heap[gb262]? = some (.cells #[u263000, .int .i64 x263001_1] 26 (0, 0))) ∧ Aside0 (Below w.heap.size w w'))
    case atStart => exact ⟨(([] : List Int)), (0), (([] : List (S44))), (wrap64 (1 + (Go.bits .and .i64 a0 15))), (.slice none 0 0), (by first | rfl | (simp; done) | (simp [*]; done)), H', ⟨Nat.le_refl _⟩, ⟨by first | exact Kd.R_nil _ _ _ _ _ | exact Kd.N_nil _ _ _ _ _ | exact Kd.V_nil _ _ _ _ _ | exact Kd.Q_nil _ _ _ _ _ | exact Kd.S_nil _ _ _ _ _⟩, ⟨by first | exact Kd.R_nil _ _ _ _ _ | exact Kd.N_nil _ _ _ _ _ | exact Kd.V_nil _ _ _ _ _ | exact Kd.Q_nil _ _ _ _ _ | exact Kd.S_nil _ _ _ _ _⟩, ⟨by (with_reducible repeat (first | refine blk_drewN ?_ _ | refine blk_drew ?_ | refine blk_alloc ?_ _)); refine blk_put (cs := #[.slice none 0 0, .int .i64 0]) ?_ 1 _ rfl; (with_reducible repeat (first | refine blk_drewN ?_ _ | refine blk_drew ?_ | refine blk_alloc ?_ _)); refine blk_put (cs := #[.slice none 0 0, .int .i64 0]) ?_ 0 _ rfl; (with_reducible repeat (first | refine blk_drewN ?_ _ | refine blk_drew ?_ | refine blk_alloc ?_ _)); exact BK262.out⟩, ⟨by repeat (first | (with_reducible first | exact HB.out | apply below_alloc | apply pw_below_drewN | apply below_drew1 | refine below_set ?_ GE262.out) | exact HB.out)⟩⟩
    case round =>
      clear H'
      try clear c2
      try clear p2
      try clear c5
      try clear c5b0
      try clear c5b1
      try clear p6
      try clear c8
      try clear hcz9_0
      try clear hcz9_1
      try clear hfz9_0
      try clear hfz9_1
      obtain ⟨x11_1, x12_1, x263000_1, x263001_1, u263000, rfl, HA, HK1, HO_11, HO_263000, BK262, HB⟩ := hrel
      cases gk with
      | zero => exact absurd HA.out (by simp [heronrylaw21_SchedFair.l0])
      | succ k1 =>
        have H := HA.out
        clear HA
        simp only [heronrylaw21_SchedFair.l0] at H
        by_cases c10 : x12_1 < (wrap64 (1 + (Go.bits .and .i64 a1 15)))
        · rw [if_pos c10] at H
          have c10b0 : decide (x12_1 < (wrap64 (1 + (Go.bits .and .i64 a1 15)))) = true := decide_eq_true c10
          clear c10
          replace H := Option.bind_eq_some_iff.mp H
          obtain ⟨t263, A110, H⟩ := H
          replace H : (if x12_1 = (wrap64 ((wrap64 (1 + (Go.bits .and .i64 a1 15))) - 1)) then ((sched_Add.f k1 x263000_1 x263001_1 x12_1 18442240474082181120).bind fun bt264 => (if bt264.2.2 = 0 then (if x11_1.length < 17592186044416 then (heronrylaw21_SchedFair.l0 k1 l2 t261 (wrap64 (1 + (Go.bits .and .i64 a1 15))) (x11_1 ++ [x12_1]) (wrap64 (x12_1 + 1)) bt264.1 bt264.2.1) else (none)) else (some false))) else ((sched_Add.f k1 x263000_1 x263001_1 x12_1 t263).bind fun bt273 => (if bt273.2.2 = 0 then (if x11_1.length < 17592186044416 then (heronrylaw21_SchedFair.l0 k1 l2 t261 (wrap64 (1 + (Go.bits .and .i64 a1 15))) (x11_1 ++ [x12_1]) (wrap64 (x12_1 + 1)) bt273.1 bt273.2.1) else (none)) else (some false)))) = some r := H
          have A11 := Aside0.mk A110
          clear A110
          by_cases c12 : x12_1 = (wrap64 ((wrap64 (1 + (Go.bits .and .i64 a1 15))) - 1))
          · rw [if_pos c12] at H
            have c12b0 : (x12_1 == (wrap64 ((wrap64 (1 + (Go.bits .and .i64 a1 15))) - 1))) = true := beq_iff_eq.mpr c12
            have c12b1 : (x12_1 != (wrap64 ((wrap64 (1 + (Go.bits .and .i64 a1 15))) - 1))) = false := bne_eq_false_iff_eq.mpr c12
            clear c12
            replace H := Option.bind_eq_some_iff.mp H
            obtain ⟨⟨t264, t267, t268⟩, A130, H⟩ := H
            replace H : (if t268 = 0 then (if x11_1.length < 17592186044416 then (heronrylaw21_SchedFair.l0 k1 l2 t261 (wrap64 (1 + (Go.bits .and .i64 a1 15))) (x11_1 ++ [x12_1]) (wrap64 (x12_1 + 1)) t264 t267) else (none)) else (some false)) = some r := H
            have A13 := Aside0.mk A130
            clear A130
            by_cases c14 : t268 = 0
            · rw [if_pos c14] at H
              have c14b0 : (t268 == 0) = true := beq_iff_eq.mpr c14
              have c14b1 : (t268 != 0) = false := bne_eq_false_iff_eq.mpr c14
              clear c14
              by_cases c15 : x11_1.length < 17592186044416
              · rw [if_pos c15] at H
                have LMc15 := Aside0.mk c15
                clear c15
                obtain ⟨y270, hy270⟩ : ∃ y_ : List Int, y_ = (x11_1 ++ [x12_1]) := ⟨_, rfl⟩
                replace H : (heronrylaw21_SchedFair.l0 k1 l2 t261 (wrap64 (1 + (Go.bits .and .i64 a1 15))) y270 (wrap64 (x12_1 + 1)) t264 t267) = some r := by first | (rw [hy270]; with_reducible exact H) | (have H2_ := (Option.bind_some _ _).symm.trans H; rw [hy270]; with_reducible exact H2_) | (have H2_ := (Option.bind_some _ _).symm.trans H; with_reducible exact H2_) | with_reducible exact H | (rw [hy270]; exact H) | exact H
                have Ny270 := Aside0.mk hy270
                clear hy270
                have H' := Aside0.mk H
                clear H
                go_wp2_with (first | ((with_reducible refine gate_callee (f := 16) rfl ?_); refine goesL_ (some 42) rfl rfl Try.func16 (by kernel_rfl) rfl #[.int .i64 5] rfl (by (try simp only [List.map_toArray, List.map_cons, List.map_nil]); first | done | rfl | (simp only [List.length_drop, List.length_take]; rfl)) ?_; (with_reducible refine (float_Of.calls 5 t263 _ A11.out).mono ?_); rintro e w' ⟨rfl, ⟨nd, rfl⟩⟩; refine ⟨_, rfl, ?_⟩; (try (rw [drewN_self wr]; generalize hq_ : World.drewN wr _ = wr; have n0_ : Aside0 (Kd.R (Kd.int .i64) 3 wr w.heap.size (fun _ => True) u11 x11_1) := ⟨by rw [← hq_]; exact (by (with_reducible repeat (first | apply Kd.R_alloc | apply Kd.R_drewN | apply Kd.R_drew)); exact HO_11.out)⟩; have n1_ : Aside0 (Kd.R k44 44 wr w.heap.size (fun _ => True) u263000 x263000_1) := ⟨by rw [← hq_]; exact (by (with_reducible repeat (first | apply Kd.R_alloc | apply Kd.R_drewN | apply Kd.R_drew)); exact HO_263000.out)⟩; have n2_ : Aside0 (wr.heap[gb262]? = some (.cells #[u263000, .int .i64 x263001_1] 26 (0, 0))) := ⟨by rw [← hq_]; exact (by (with_reducible repeat (first | refine blk_drewN ?_ _ | refine blk_drew ?_ | refine blk_alloc ?_ _)); exact BK262.out)⟩; have n3_ : Aside0 (Below w.heap.size w wr) := ⟨by rw [← hq_]; exact (by repeat (first | (with_reducible first | exact HB.out | apply below_alloc | apply pw_below_drewN | apply below_drew1 | refine below_set ?_ GE262.out) | exact HB.out))⟩; clear HO_11 HO_263000 BK262 HB hq_; have HO_11 := n0_; have HO_263000 := n1_; have BK262 := n2_; have HB := n3_; clear n0_ n1_ n2_ n3_)); have hcz16_0 : wr.cell? ⟨gb262, 0, none⟩ = some (u263000) := (blk_cell BK262.out 0).trans rfl; have hcz16_1 : wr.cell? ⟨gb262, 1, none⟩ = some (.int .i64 x263001_1) := (blk_cell BK262.out 1).trans rfl; have hfz16_0 := blk_frozen BK262.out 0; have hfz16_1 := blk_frozen BK262.out 1; obtain ⟨Ao17, co17, eo17⟩ := Kd.R_slice HO_263000.out; subst eo17) | ((with_reducible refine gate_callee (f := 10) rfl ?_); refine goesL_ (some 51) rfl rfl Try.func10 (by kernel_rfl) rfl #[.agg #[.slice Ao17 x263000_1.length co17, .int .i64 x263001_1], .int .i64 x12_1, .int .u64 18442240474082181120] rfl (by (try simp only [List.map_toArray, List.map_cons, List.map_nil]); first | done | rfl | (simp only [List.length_drop, List.length_take]; rfl)) ?_; (with_reducible refine (sched_Add.calls k1 _ _ x263000_1 x263001_1 x12_1 18442240474082181120 t264 t267 t268 _ ?side1 ?side2 A13.out).mono ?_); (case side1 => repeat (first | exact (Kd.R_reads' HO_263000.out).2.2 | (with_reducible refine Kd.C_alloc ?_ _) | (with_reducible refine Kd.C_drewN ?_ _) | (with_reducible refine Kd.C_drew ?_))); (case side2 => exact (Kd.R_reads' HO_263000.out).2.1); rintro e w18 ⟨v265, rfl, ho0, hb⟩; refine ⟨_, rfl, ?_⟩; have n0_ := Aside0.mk (Kd.R_below (by (with_reducible repeat (first | apply Kd.R_alloc | apply Kd.R_drewN | apply Kd.R_drew)); exact HO_11.out) hb); have n1_ := Aside0.mk (Kd.R_elder' (by (with_reducible repeat (first | apply Kd.R_alloc | apply Kd.R_drewN | apply Kd.R_drew)); exact HO_263000.out) (Kd.R_base ho0) hb); have n2_ := Aside0.mk (Kd.R_lower (Kd.R_new' ho0 (Kd.R_lt (by (with_reducible repeat (first | apply Kd.R_alloc | apply Kd.R_drewN | apply Kd.R_drew)); exact HO_263000.out))) (below_size (by repeat (first | (with_reducible first | exact HB.out | apply below_alloc | apply pw_below_drewN | apply below_drew1 | refine below_set ?_ GE262.out) | exact HB.out)))); have n3_ := Aside0.mk (blk_below (g := gb262) (o := .cells #[.slice Ao17 x263000_1.length co17, .int .i64 x263001_1] 26 (0, 0)) (by (with_reducible repeat (first | refine blk_drewN ?_ _ | refine blk_drew ?_ | refine blk_alloc ?_ _)); exact BK262.out) hb); have n4_ := Aside0.mk (below_step (by repeat (first | (with_reducible first | exact HB.out | apply below_alloc | apply pw_below_drewN | apply below_drew1 | refine below_set ?_ GE262.out) | exact HB.out)) hb); clear HO_11; clear HO_263000; clear BK262; clear HB; have HO_11 := n0_; have HO_263000 := n1_; have HO266 := n2_; have BK262 := n3_; have HB := n4_; clear n0_ n1_ n2_ n3_ n4_; (try clear hb); (try clear hb2); (try clear hk); (try clear hi); (try clear ho0)) | ((with_reducible refine gate_dst (N := 14) rfl ?_); refine box_event ?hg (N := 14) ?hd (cs := #[.slice none 0 0, .int .i64 0]) (t := 26) ?hr ?_; (case hd => rfl); (case hg => rfl); (case hr => first | (go_simp; done) | (go_simp; rfl)); intro gb269 hg w19 hbox hb; have n0_ := Aside0.mk (Kd.R_below (by (with_reducible repeat (first | apply Kd.R_alloc | apply Kd.R_drewN | apply Kd.R_drew)); exact HO_11.out) hb); have n1_ := Aside0.mk (Kd.R_below (by (with_reducible repeat (first | apply Kd.R_alloc | apply Kd.R_drewN | apply Kd.R_drew)); exact HO_263000.out) hb); have n2_ := Aside0.mk (Kd.R_below (by (with_reducible repeat (first | apply Kd.R_alloc | apply Kd.R_drewN | apply Kd.R_drew)); exact HO266.out) hb); have n3_ := Aside0.mk (blk_below (g := gb262) (o := .cells #[.slice Ao17 x263000_1.length co17, .int .i64 x263001_1] 26 (0, 0)) (by (with_reducible repeat (first | refine blk_drewN ?_ _ | refine blk_drew ?_ | refine blk_alloc ?_ _)); exact BK262.out) hb); have n4_ := Aside0.mk (below_step (by repeat (first | (with_reducible first | exact HB.out | apply below_alloc | apply pw_below_drewN | apply below_drew1 | refine below_set ?_ GE262.out) | exact HB.out)) hb); have n5_ := Aside0.mk (hbox); have n6_ := Aside0.mk ((by rw [hg]; exact (below_size (by repeat (first | (with_reducible first | exact HB.out | apply below_alloc | apply pw_below_drewN | apply below_drew1 | refine below_set ?_ GE262.out) | exact HB.out))) : w.heap.size ≤ gb269)); have n7_ := Aside0.mk ((by rw [hg]; exact (below_size (by repeat (first | (with_reducible first | exact HB.out | apply below_alloc | apply pw_below_drewN | apply below_drew1 | refine below_set ?_ GE262.out) | exact HB.out))) : w.heap.size ≤ gb269)); have n8_ := Aside0.mk ((by rw [hg]; exact Nat.ne_of_lt (blk_lt (g := gb262) (o := .cells #[.slice Ao17 x263000_1.length co17, .int .i64 x263001_1] 26 (0, 0)) (by (with_reducible repeat (first | refine blk_drewN ?_ _ | refine blk_drew ?_ | refine blk_alloc ?_ _)); exact BK262.out)) : gb262 ≠ gb269)); have n9_ := Aside0.mk ((by rw [hg]; exact Nat.ne_of_gt (blk_lt (g := gb262) (o := .cells #[.slice Ao17 x263000_1.length co17, .int .i64 x263001_1] 26 (0, 0)) (by (with_reducible repeat (first | refine blk_drewN ?_ _ | refine blk_drew ?_ | refine blk_alloc ?_ _)); exact BK262.out)) : gb269 ≠ gb262)); clear HO_11; clear HO_263000; clear HO266; clear BK262; clear HB; have HO_11 := n0_; have HO_263000 := n1_; have HO266 := n2_; have BK262 := n3_; have HB := n4_; have BK269 := n5_; have GW269 := n6_; have GE269 := n7_; have NB262_269 := n8_; have NB269_262 := n9_; clear n0_ n1_ n2_ n3_ n4_ n5_ n6_ n7_ n8_ n9_; clear hb hbox hg; obtain ⟨Ao20, co20, eo20⟩ := Kd.R_slice HO266.out; subst eo20; have hnb21 := NB269_262.out; have hnc21 := NB262_269.out; have hcz22_0 : w19.cell? ⟨gb269, 0, none⟩ = some (.slice none 0 0) := (blk_cell BK269.out 0).trans rfl; have hcz22_1 : w19.cell? ⟨gb269, 1, none⟩ = some (.int .i64 0) := (blk_cell BK269.out 1).trans rfl; have hfz22_0 := blk_frozen BK269.out 0; have hfz22_1 := blk_frozen BK269.out 1; have hcz23_0 : w19.cell? ⟨gb262, 0, none⟩ = some (.slice Ao17 x263000_1.length co17) := (blk_cell BK262.out 0).trans rfl; have hcz23_1 : w19.cell? ⟨gb262, 1, none⟩ = some (.int .i64 x263001_1) := (blk_cell BK262.out 1).trans rfl; have hfz23_0 := blk_frozen BK262.out 0; have hfz23_1 := blk_frozen BK262.out 1) | ((with_reducible refine gate_builtin (b := .append) (xs := #[.tmp 57, .tmp 59]) rfl ?_); at_builtin; refine Kd.R_append (Kd.int .i64) (w0 := w) w.heap.size rfl (.tmp 57) (.tmp 59) 27 3 (.int .i64 0) 8 rfl Try.underlying27 info3 rfl (by decide) (by omega) u11 x11_1 x12_1 [.int .i64 x12_1] (fun _ => True) (fun _ => False) rfl (by first | (go_simp; done) | (go_simp; rfl)) ?aP (fun _ hk => hk.elim) ?aF ?aO ?aB ?aS ?aL ?_; (case aP => exact rfl); (case aB => exact (by repeat (first | (with_reducible first | exact HB.out | apply below_alloc | apply pw_below_drewN | apply below_drew1 | refine below_set ?_ GE262.out | refine below_set ?_ GE269.out) | exact HB.out))); (case aF => exact (fun _ _ => trivial)); (case aO => exact (by (with_reducible repeat (first | apply Kd.R_alloc | apply Kd.R_drewN | apply Kd.R_drew)); exact Kd.R_mono (Kd.R_far (p := ⟨gb262, 1, none⟩) (Kd.R_far (p := ⟨gb262, 0, none⟩) (Kd.R_far (p := ⟨gb269, 1, none⟩) (Kd.R_far (p := ⟨gb269, 0, none⟩) (Kd.R_types (Kd.R_types HO_11.out BK269.out (by decide)) BK262.out (by decide)) (fun _ hk => hk.1.2) (.slice Ao20 t264.length co20)) (fun _ hk => hk.1.2) (.int .i64 t267)) (fun _ hk => hk.2) (.slice Ao20 t264.length co20)) (fun _ hk => hk.2) (.int .i64 t267)) (fun _ hk => trivial))); (case aS => exact (below_size (by repeat (first | (with_reducible first | exact HB.out | apply below_alloc | apply pw_below_drewN | apply below_drew1 | refine below_set ?_ GE262.out | refine below_set ?_ GE269.out) | exact HB.out)))); (case aL => have := LMc15.out; omega); intro v271 w24 ho hb hg hat; rw [← Ny270.out] at ho; have n0_ := Aside0.mk (Kd.R_over' (by (with_reducible repeat (first | apply Kd.R_alloc | apply Kd.R_drewN | apply Kd.R_drew)); exact (Kd.R_mono (Kd.R_mono (Kd.R_far (p := ⟨gb262, 1, none⟩) (Kd.R_far (p := ⟨gb262, 0, none⟩) (Kd.R_far (p := ⟨gb269, 1, none⟩) (Kd.R_far (p := ⟨gb269, 0, none⟩) (Kd.R_types (Kd.R_types HO_263000.out BK269.out (by decide)) BK262.out (by decide)) (fun _ hk => hk.1.2) (.slice Ao20 t264.length co20)) (fun _ hk => hk.1.2) (.int .i64 t267)) (fun _ hk => hk.2) (.slice Ao20 t264.length co20)) (fun _ hk => hk.2) (.int .i64 t267)) (fun _ h_ => h_.1)) (fun _ h_ => h_.1))) (Kd.R_typed (by (with_reducible repeat (first | apply Kd.R_alloc | apply Kd.R_drewN | apply Kd.R_drew)); exact (Kd.R_mono (Kd.R_mono (Kd.R_far (p := ⟨gb262, 1, none⟩) (Kd.R_far (p := ⟨gb262, 0, none⟩) (Kd.R_far (p := ⟨gb269, 1, none⟩) (Kd.R_far (p := ⟨gb269, 0, none⟩) (Kd.R_types (Kd.R_types HO_11.out BK269.out (by decide)) BK262.out (by decide)) (fun _ hk => hk.1.2) (.slice Ao20 t264.length co20)) (fun _ hk => hk.1.2) (.int .i64 t267)) (fun _ hk => hk.2) (.slice Ao20 t264.length co20)) (fun _ hk => hk.2) (.int .i64 t267)) (fun _ h_ => h_.1)) (fun _ h_ => h_.1)))) (by decide) hg); have n1_ := Aside0.mk (blk_grown (g := gb262) (o := .cells #[.slice Ao20 t264.length co20, .int .i64 t267] 26 (0, 0)) (by (with_reducible repeat (first | refine blk_drewN ?_ _ | refine blk_drew ?_ | refine blk_alloc ?_ _)); refine blk_put (cs := #[.slice Ao20 t264.length co20, .int .i64 x263001_1]) ?_ 1 _ rfl; (with_reducible repeat (first | refine blk_drewN ?_ _ | refine blk_drew ?_ | refine blk_alloc ?_ _)); refine blk_put (cs := #[.slice Ao17 x263000_1.length co17, .int .i64 x263001_1]) ?_ 0 _ rfl; (with_reducible repeat (first | refine blk_drewN ?_ _ | refine blk_drew ?_ | refine blk_alloc ?_ _)); refine blk_far ?_ NB262_269.out _; (with_reducible repeat (first | refine blk_drewN ?_ _ | refine blk_drew ?_ | refine blk_alloc ?_ _)); refine blk_far ?_ NB262_269.out _; (with_reducible repeat (first | refine blk_drewN ?_ _ | refine blk_drew ?_ | refine blk_alloc ?_ _)); exact BK262.out) hg (Kd.R_ne HO_11.out BK262.out (by decide))); have n2_ := Aside0.mk (Kd.R_over' (by (with_reducible repeat (first | apply Kd.R_alloc | apply Kd.R_drewN | apply Kd.R_drew)); exact (Kd.R_mono (Kd.R_mono (Kd.R_far (p := ⟨gb262, 1, none⟩) (Kd.R_far (p := ⟨gb262, 0, none⟩) (Kd.R_far (p := ⟨gb269, 1, none⟩) (Kd.R_far (p := ⟨gb269, 0, none⟩) (Kd.R_types (Kd.R_types HO266.out BK269.out (by decide)) BK262.out (by decide)) (fun _ hk => hk.1.2) (.slice Ao20 t264.length co20)) (fun _ hk => hk.1.2) (.int .i64 t267)) (fun _ hk => hk.2) (.slice Ao20 t264.length co20)) (fun _ hk => hk.2) (.int .i64 t267)) (fun _ h_ => h_.1)) (fun _ h_ => h_.1))) (Kd.R_typed (by (with_reducible repeat (first | apply Kd.R_alloc | apply Kd.R_drewN | apply Kd.R_drew)); exact (Kd.R_mono (Kd.R_mono (Kd.R_far (p := ⟨gb262, 1, none⟩) (Kd.R_far (p := ⟨gb262, 0, none⟩) (Kd.R_far (p := ⟨gb269, 1, none⟩) (Kd.R_far (p := ⟨gb269, 0, none⟩) (Kd.R_types (Kd.R_types HO_11.out BK269.out (by decide)) BK262.out (by decide)) (fun _ hk => hk.1.2) (.slice Ao20 t264.length co20)) (fun _ hk => hk.1.2) (.int .i64 t267)) (fun _ hk => hk.2) (.slice Ao20 t264.length co20)) (fun _ hk => hk.2) (.int .i64 t267)) (fun _ h_ => h_.1)) (fun _ h_ => h_.1)))) (by decide) hg); have n3_ := Aside0.mk (blk_grown (g := gb269) (o := .cells #[.slice Ao20 t264.length co20, .int .i64 t267] 26 (0, 0)) (by (with_reducible repeat (first | refine blk_drewN ?_ _ | refine blk_drew ?_ | refine blk_alloc ?_ _)); refine blk_far ?_ NB269_262.out _; (with_reducible repeat (first | refine blk_drewN ?_ _ | refine blk_drew ?_ | refine blk_alloc ?_ _)); refine blk_far ?_ NB269_262.out _; (with_reducible repeat (first | refine blk_drewN ?_ _ | refine blk_drew ?_ | refine blk_alloc ?_ _)); refine blk_put (cs := #[.slice Ao20 t264.length co20, .int .i64 0]) ?_ 1 _ rfl; (with_reducible repeat (first | refine blk_drewN ?_ _ | refine blk_drew ?_ | refine blk_alloc ?_ _)); refine blk_put (cs := #[.slice none 0 0, .int .i64 0]) ?_ 0 _ rfl; (with_reducible repeat (first | refine blk_drewN ?_ _ | refine blk_drew ?_ | refine blk_alloc ?_ _)); exact BK269.out) hg (Kd.R_ne HO_11.out BK269.out (by decide))); have n4_ := Aside0.mk (hb); have n5_ := Aside0.mk (ho); clear HO_263000; clear BK262; clear HO266; clear BK269; clear HB; clear HO_11; have HO_263000 := n0_; have BK262 := n1_; have HO266 := n2_; have BK269 := n3_; have HB := n4_; have HO272 := n5_; clear n0_ n1_ n2_ n3_ n4_ n5_; clear ho hb hg hat))
                go_roundg k1
                case measure => have := HK1.out; omega
                case rel => exact ⟨(y270), (wrap64 (x12_1 + 1)), (t264), (t267), (.slice Ao20 t264.length co20), (by first | rfl | (simp; done) | (simp [*]; done)), H', ⟨by have := HK1.out; omega⟩, ⟨by (with_reducible repeat (first | apply Kd.R_alloc | apply Kd.R_drewN | apply Kd.R_drew)); exact HO272.out⟩, ⟨by (with_reducible repeat (first | apply Kd.R_alloc | apply Kd.R_drewN | apply Kd.R_drew)); exact Kd.R_mono HO266.out (fun _ hk => trivial)⟩, ⟨by (with_reducible repeat (first | refine blk_drewN ?_ _ | refine blk_drew ?_ | refine blk_alloc ?_ _)); exact BK262.out⟩, ⟨by repeat (first | (with_reducible first | exact HB.out | apply below_alloc | apply pw_below_drewN | apply below_drew1 | refine below_set ?_ GE262.out | refine below_set ?_ GE269.out) | exact HB.out)⟩⟩
              · rw [if_neg c15] at H
                exact absurd H (by simp)
            · rw [if_neg c14] at H
              have c14b0 : (t268 == 0) = false := beq_eq_false_iff_ne.mpr c14
              have c14b1 : (t268 != 0) = true := bne_iff_ne.mpr c14
              obtain rfl := Option.some.inj H
              exact absurd hT_.out (by decide)
          · rw [if_neg c12] at H
            have c12b0 : (x12_1 == (wrap64 ((wrap64 (1 + (Go.bits .and .i64 a1 15))) - 1))) = false := beq_eq_false_iff_ne.mpr c12
            have c12b1 : (x12_1 != (wrap64 ((wrap64 (1 + (Go.bits .and .i64 a1 15))) - 1))) = true := bne_iff_ne.mpr c12
            replace H := Option.bind_eq_some_iff.mp H
            obtain ⟨⟨t273, t276, t277⟩, A250, H⟩ := H
            replace H : (if t277 = 0 then (if x11_1.length < 17592186044416 then (heronrylaw21_SchedFair.l0 k1 l2 t261 (wrap64 (1 + (Go.bits .and .i64 a1 15))) (x11_1 ++ [x12_1]) (wrap64 (x12_1 + 1)) t273 t276) else (none)) else (some false)) = some r := H
            have A25 := Aside0.mk A250
            clear A250
            by_cases c26 : t277 = 0
            · rw [if_pos c26] at H
              have c26b0 : (t277 == 0) = true := beq_iff_eq.mpr c26
              have c26b1 : (t277 != 0) = false := bne_eq_false_iff_eq.mpr c26
              clear c26
              by_cases c27 : x11_1.length < 17592186044416
              · rw [if_pos c27] at H
                have LMc27 := Aside0.mk c27
                clear c27
                obtain ⟨y279, hy279⟩ : ∃ y_ : List Int, y_ = (x11_1 ++ [x12_1]) := ⟨_, rfl⟩
                replace H : (heronrylaw21_SchedFair.l0 k1 l2 t261 (wrap64 (1 + (Go.bits .and .i64 a1 15))) y279 (wrap64 (x12_1 + 1)) t273 t276) = some r := by first | (rw [hy279]; with_reducible exact H) | (have H2_ := (Option.bind_some _ _).symm.trans H; rw [hy279]; with_reducible exact H2_) | (have H2_ := (Option.bind_some _ _).symm.trans H; with_reducible exact H2_) | with_reducible exact H | (rw [hy279]; exact H) | exact H
                have Ny279 := Aside0.mk hy279
                clear hy279
                have H' := Aside0.mk H
                clear H
                go_wp2_with (first | ((with_reducible refine gate_callee (f := 16) rfl ?_); refine goesL_ (some 42) rfl rfl Try.func16 (by kernel_rfl) rfl #[.int .i64 5] rfl (by (try simp only [List.map_toArray, List.map_cons, List.map_nil]); first | done | rfl | (simp only [List.length_drop, List.length_take]; rfl)) ?_; (with_reducible refine (float_Of.calls 5 t263 _ A11.out).mono ?_); rintro e w' ⟨rfl, ⟨nd, rfl⟩⟩; refine ⟨_, rfl, ?_⟩; (try (rw [drewN_self wr]; generalize hq_ : World.drewN wr _ = wr; have n0_ : Aside0 (Kd.R (Kd.int .i64) 3 wr w.heap.size (fun _ => True) u11 x11_1) := ⟨by rw [← hq_]; exact (by (with_reducible repeat (first | apply Kd.R_alloc | apply Kd.R_drewN | apply Kd.R_drew)); exact HO_11.out)⟩; have n1_ : Aside0 (Kd.R k44 44 wr w.heap.size (fun _ => True) u263000 x263000_1) := ⟨by rw [← hq_]; exact (by (with_reducible repeat (first | apply Kd.R_alloc | apply Kd.R_drewN | apply Kd.R_drew)); exact HO_263000.out)⟩; have n2_ : Aside0 (wr.heap[gb262]? = some (.cells #[u263000, .int .i64 x263001_1] 26 (0, 0))) := ⟨by rw [← hq_]; exact (by (with_reducible repeat (first | refine blk_drewN ?_ _ | refine blk_drew ?_ | refine blk_alloc ?_ _)); exact BK262.out)⟩; have n3_ : Aside0 (Below w.heap.size w wr) := ⟨by rw [← hq_]; exact (by repeat (first | (with_reducible first | exact HB.out | apply below_alloc | apply pw_below_drewN | apply below_drew1 | refine below_set ?_ GE262.out) | exact HB.out))⟩; clear HO_11 HO_263000 BK262 HB hq_; have HO_11 := n0_; have HO_263000 := n1_; have BK262 := n2_; have HB := n3_; clear n0_ n1_ n2_ n3_)); have hcz28_0 : wr.cell? ⟨gb262, 0, none⟩ = some (u263000) := (blk_cell BK262.out 0).trans rfl; have hcz28_1 : wr.cell? ⟨gb262, 1, none⟩ = some (.int .i64 x263001_1) := (blk_cell BK262.out 1).trans rfl; have hfz28_0 := blk_frozen BK262.out 0; have hfz28_1 := blk_frozen BK262.out 1; obtain ⟨Ao29, co29, eo29⟩ := Kd.R_slice HO_263000.out; subst eo29) | ((with_reducible refine gate_callee (f := 10) rfl ?_); refine goesL_ (some 51) rfl rfl Try.func10 (by kernel_rfl) rfl #[.agg #[.slice Ao29 x263000_1.length co29, .int .i64 x263001_1], .int .i64 x12_1, .int .u64 t263] rfl (by (try simp only [List.map_toArray, List.map_cons, List.map_nil]); first | done | rfl | (simp only [List.length_drop, List.length_take]; rfl)) ?_; (with_reducible refine (sched_Add.calls k1 _ _ x263000_1 x263001_1 x12_1 t263 t273 t276 t277 _ ?side1 ?side2 A25.out).mono ?_); (case side1 => repeat (first | exact (Kd.R_reads' HO_263000.out).2.2 | (with_reducible refine Kd.C_alloc ?_ _) | (with_reducible refine Kd.C_drewN ?_ _) | (with_reducible refine Kd.C_drew ?_))); (case side2 => exact (Kd.R_reads' HO_263000.out).2.1); rintro e w30 ⟨v274, rfl, ho0, hb⟩; refine ⟨_, rfl, ?_⟩; have n0_ := Aside0.mk (Kd.R_below (by (with_reducible repeat (first | apply Kd.R_alloc | apply Kd.R_drewN | apply Kd.R_drew)); exact HO_11.out) hb); have n1_ := Aside0.mk (Kd.R_elder' (by (with_reducible repeat (first | apply Kd.R_alloc | apply Kd.R_drewN | apply Kd.R_drew)); exact HO_263000.out) (Kd.R_base ho0) hb); have n2_ := Aside0.mk (Kd.R_lower (Kd.R_new' ho0 (Kd.R_lt (by (with_reducible repeat (first | apply Kd.R_alloc | apply Kd.R_drewN | apply Kd.R_drew)); exact HO_263000.out))) (below_size (by repeat (first | (with_reducible first | exact HB.out | apply below_alloc | apply pw_below_drewN | apply below_drew1 | refine below_set ?_ GE262.out) | exact HB.out)))); have n3_ := Aside0.mk (blk_below (g := gb262) (o := .cells #[.slice Ao29 x263000_1.length co29, .int .i64 x263001_1] 26 (0, 0)) (by (with_reducible repeat (first | refine blk_drewN ?_ _ | refine blk_drew ?_ | refine blk_alloc ?_ _)); exact BK262.out) hb); have n4_ := Aside0.mk (below_step (by repeat (first | (with_reducible first | exact HB.out | apply below_alloc | apply pw_below_drewN | apply below_drew1 | refine below_set ?_ GE262.out) | exact HB.out)) hb); clear HO_11; clear HO_263000; clear BK262; clear HB; have HO_11 := n0_; have HO_263000 := n1_; have HO275 := n2_; have BK262 := n3_; have HB := n4_; clear n0_ n1_ n2_ n3_ n4_; (try clear hb); (try clear hb2); (try clear hk); (try clear hi); (try clear ho0)) | ((with_reducible refine gate_dst (N := 14) rfl ?_); refine box_event ?hg (N := 14) ?hd (cs := #[.slice none 0 0, .int .i64 0]) (t := 26) ?hr ?_; (case hd => rfl); (case hg => rfl); (case hr => first | (go_simp; done) | (go_simp; rfl)); intro gb278 hg w31 hbox hb; have n0_ := Aside0.mk (Kd.R_below (by (with_reducible repeat (first | apply Kd.R_alloc | apply Kd.R_drewN | apply Kd.R_drew)); exact HO_11.out) hb); have n1_ := Aside0.mk (Kd.R_below (by (with_reducible repeat (first | apply Kd.R_alloc | apply Kd.R_drewN | apply Kd.R_drew)); exact HO_263000.out) hb); have n2_ := Aside0.mk (Kd.R_below (by (with_reducible repeat (first | apply Kd.R_alloc | apply Kd.R_drewN | apply Kd.R_drew)); exact HO275.out) hb); have n3_ := Aside0.mk (blk_below (g := gb262) (o := .cells #[.slice Ao29 x263000_1.length co29, .int .i64 x263001_1] 26 (0, 0)) (by (with_reducible repeat (first | refine blk_drewN ?_ _ | refine blk_drew ?_ | refine blk_alloc ?_ _)); exact BK262.out) hb); have n4_ := Aside0.mk (below_step (by repeat (first | (with_reducible first | exact HB.out | apply below_alloc | apply pw_below_drewN | apply below_drew1 | refine below_set ?_ GE262.out) | exact HB.out)) hb); have n5_ := Aside0.mk (hbox); have n6_ := Aside0.mk ((by rw [hg]; exact (below_size (by repeat (first | (with_reducible first | exact HB.out | apply below_alloc | apply pw_below_drewN | apply below_drew1 | refine below_set ?_ GE262.out) | exact HB.out))) : w.heap.size ≤ gb278)); have n7_ := Aside0.mk ((by rw [hg]; exact (below_size (by repeat (first | (with_reducible first | exact HB.out | apply below_alloc | apply pw_below_drewN | apply below_drew1 | refine below_set ?_ GE262.out) | exact HB.out))) : w.heap.size ≤ gb278)); have n8_ := Aside0.mk ((by rw [hg]; exact Nat.ne_of_lt (blk_lt (g := gb262) (o := .cells #[.slice Ao29 x263000_1.length co29, .int .i64 x263001_1] 26 (0, 0)) (by (with_reducible repeat (first | refine blk_drewN ?_ _ | refine blk_drew ?_ | refine blk_alloc ?_ _)); exact BK262.out)) : gb262 ≠ gb278)); have n9_ := Aside0.mk ((by rw [hg]; exact Nat.ne_of_gt (blk_lt (g := gb262) (o := .cells #[.slice Ao29 x263000_1.length co29, .int .i64 x263001_1] 26 (0, 0)) (by (with_reducible repeat (first | refine blk_drewN ?_ _ | refine blk_drew ?_ | refine blk_alloc ?_ _)); exact BK262.out)) : gb278 ≠ gb262)); clear HO_11; clear HO_263000; clear HO275; clear BK262; clear HB; have HO_11 := n0_; have HO_263000 := n1_; have HO275 := n2_; have BK262 := n3_; have HB := n4_; have BK278 := n5_; have GW278 := n6_; have GE278 := n7_; have NB262_278 := n8_; have NB278_262 := n9_; clear n0_ n1_ n2_ n3_ n4_ n5_ n6_ n7_ n8_ n9_; clear hb hbox hg; obtain ⟨Ao32, co32, eo32⟩ := Kd.R_slice HO275.out; subst eo32; have hnb33 := NB278_262.out; have hnc33 := NB262_278.out; have hcz34_0 : w31.cell? ⟨gb278, 0, none⟩ = some (.slice none 0 0) := (blk_cell BK278.out 0).trans rfl; have hcz34_1 : w31.cell? ⟨gb278, 1, none⟩ = some (.int .i64 0) := (blk_cell BK278.out 1).trans rfl; have hfz34_0 := blk_frozen BK278.out 0; have hfz34_1 := blk_frozen BK278.out 1; have hcz35_0 : w31.cell? ⟨gb262, 0, none⟩ = some (.slice Ao29 x263000_1.length co29) := (blk_cell BK262.out 0).trans rfl; have hcz35_1 : w31.cell? ⟨gb262, 1, none⟩ = some (.int .i64 x263001_1) := (blk_cell BK262.out 1).trans rfl; have hfz35_0 := blk_frozen BK262.out 0; have hfz35_1 := blk_frozen BK262.out 1) | ((with_reducible refine gate_builtin (b := .append) (xs := #[.tmp 57, .tmp 59]) rfl ?_); at_builtin; refine Kd.R_append (Kd.int .i64) (w0 := w) w.heap.size rfl (.tmp 57) (.tmp 59) 27 3 (.int .i64 0) 8 rfl Try.underlying27 info3 rfl (by decide) (by omega) u11 x11_1 x12_1 [.int .i64 x12_1] (fun _ => True) (fun _ => False) rfl (by first | (go_simp; done) | (go_simp; rfl)) ?aP (fun _ hk => hk.elim) ?aF ?aO ?aB ?aS ?aL ?_; (case aP => exact rfl); (case aB => exact (by repeat (first | (with_reducible first | exact HB.out | apply below_alloc | apply pw_below_drewN | apply below_drew1 | refine below_set ?_ GE262.out | refine below_set ?_ GE278.out) | exact HB.out))); (case aF => exact (fun _ _ => trivial)); (case aO => exact (by (with_reducible repeat (first | apply Kd.R_alloc | apply Kd.R_drewN | apply Kd.R_drew)); exact Kd.R_mono (Kd.R_far (p := ⟨gb262, 1, none⟩) (Kd.R_far (p := ⟨gb262, 0, none⟩) (Kd.R_far (p := ⟨gb278, 1, none⟩) (Kd.R_far (p := ⟨gb278, 0, none⟩) (Kd.R_types (Kd.R_types HO_11.out BK278.out (by decide)) BK262.out (by decide)) (fun _ hk => hk.1.2) (.slice Ao32 t273.length co32)) (fun _ hk => hk.1.2) (.int .i64 t276)) (fun _ hk => hk.2) (.slice Ao32 t273.length co32)) (fun _ hk => hk.2) (.int .i64 t276)) (fun _ hk => trivial))); (case aS => exact (below_size (by repeat (first | (with_reducible first | exact HB.out | apply below_alloc | apply pw_below_drewN | apply below_drew1 | refine below_set ?_ GE262.out | refine below_set ?_ GE278.out) | exact HB.out)))); (case aL => have := LMc27.out; omega); intro v280 w36 ho hb hg hat; rw [← Ny279.out] at ho; have n0_ := Aside0.mk (Kd.R_over' (by (with_reducible repeat (first | apply Kd.R_alloc | apply Kd.R_drewN | apply Kd.R_drew)); exact (Kd.R_mono (Kd.R_mono (Kd.R_far (p := ⟨gb262, 1, none⟩) (Kd.R_far (p := ⟨gb262, 0, none⟩) (Kd.R_far (p := ⟨gb278, 1, none⟩) (Kd.R_far (p := ⟨gb278, 0, none⟩) (Kd.R_types (Kd.R_types HO_263000.out BK278.out (by decide)) BK262.out (by decide)) (fun _ hk => hk.1.2) (.slice Ao32 t273.length co32)) (fun _ hk => hk.1.2) (.int .i64 t276)) (fun _ hk => hk.2) (.slice Ao32 t273.length co32)) (fun _ hk => hk.2) (.int .i64 t276)) (fun _ h_ => h_.1)) (fun _ h_ => h_.1))) (Kd.R_typed (by (with_reducible repeat (first | apply Kd.R_alloc | apply Kd.R_drewN | apply Kd.R_drew)); exact (Kd.R_mono (Kd.R_mono (Kd.R_far (p := ⟨gb262, 1, none⟩) (Kd.R_far (p := ⟨gb262, 0, none⟩) (Kd.R_far (p := ⟨gb278, 1, none⟩) (Kd.R_far (p := ⟨gb278, 0, none⟩) (Kd.R_types (Kd.R_types HO_11.out BK278.out (by decide)) BK262.out (by decide)) (fun _ hk => hk.1.2) (.slice Ao32 t273.length co32)) (fun _ hk => hk.1.2) (.int .i64 t276)) (fun _ hk => hk.2) (.slice Ao32 t273.length co32)) (fun _ hk => hk.2) (.int .i64 t276)) (fun _ h_ => h_.1)) (fun _ h_ => h_.1)))) (by decide) hg); have n1_ := Aside0.mk (blk_grown (g := gb262) (o := .cells #[.slice Ao32 t273.length co32, .int .i64 t276] 26 (0, 0)) (by (with_reducible repeat (first | refine blk_drewN ?_ _ | refine blk_drew ?_ | refine blk_alloc ?_ _)); refine blk_put (cs := #[.slice Ao32 t273.length co32, .int .i64 x263001_1]) ?_ 1 _ rfl; (with_reducible repeat (first | refine blk_drewN ?_ _ | refine blk_drew ?_ | refine blk_alloc ?_ _)); refine blk_put (cs := #[.slice Ao29 x263000_1.length co29, .int .i64 x263001_1]) ?_ 0 _ rfl; (with_reducible repeat (first | refine blk_drewN ?_ _ | refine blk_drew ?_ | refine blk_alloc ?_ _)); refine blk_far ?_ NB262_278.out _; (with_reducible repeat (first | refine blk_drewN ?_ _ | refine blk_drew ?_ | refine blk_alloc ?_ _)); refine blk_far ?_ NB262_278.out _; (with_reducible repeat (first | refine blk_drewN ?_ _ | refine blk_drew ?_ | refine blk_alloc ?_ _)); exact BK262.out) hg (Kd.R_ne HO_11.out BK262.out (by decide))); have n2_ := Aside0.mk (Kd.R_over' (by (with_reducible repeat (first | apply Kd.R_alloc | apply Kd.R_drewN | apply Kd.R_drew)); exact (Kd.R_mono (Kd.R_mono (Kd.R_far (p := ⟨gb262, 1, none⟩) (Kd.R_far (p := ⟨gb262, 0, none⟩) (Kd.R_far (p := ⟨gb278, 1, none⟩) (Kd.R_far (p := ⟨gb278, 0, none⟩) (Kd.R_types (Kd.R_types HO275.out BK278.out (by decide)) BK262.out (by decide)) (fun _ hk => hk.1.2) (.slice Ao32 t273.length co32)) (fun _ hk => hk.1.2) (.int .i64 t276)) (fun _ hk => hk.2) (.slice Ao32 t273.length co32)) (fun _ hk => hk.2) (.int .i64 t276)) (fun _ h_ => h_.1)) (fun _ h_ => h_.1))) (Kd.R_typed (by (with_reducible repeat (first | apply Kd.R_alloc | apply Kd.R_drewN | apply Kd.R_drew)); exact (Kd.R_mono (Kd.R_mono (Kd.R_far (p := ⟨gb262, 1, none⟩) (Kd.R_far (p := ⟨gb262, 0, none⟩) (Kd.R_far (p := ⟨gb278, 1, none⟩) (Kd.R_far (p := ⟨gb278, 0, none⟩) (Kd.R_types (Kd.R_types HO_11.out BK278.out (by decide)) BK262.out (by decide)) (fun _ hk => hk.1.2) (.slice Ao32 t273.length co32)) (fun _ hk => hk.1.2) (.int .i64 t276)) (fun _ hk => hk.2) (.slice Ao32 t273.length co32)) (fun _ hk => hk.2) (.int .i64 t276)) (fun _ h_ => h_.1)) (fun _ h_ => h_.1)))) (by decide) hg); have n3_ := Aside0.mk (blk_grown (g := gb278) (o := .cells #[.slice Ao32 t273.length co32, .int .i64 t276] 26 (0, 0)) (by (with_reducible repeat (first | refine blk_drewN ?_ _ | refine blk_drew ?_ | refine blk_alloc ?_ _)); refine blk_far ?_ NB278_262.out _; (with_reducible repeat (first | refine blk_drewN ?_ _ | refine blk_drew ?_ | refine blk_alloc ?_ _)); refine blk_far ?_ NB278_262.out _; (with_reducible repeat (first | refine blk_drewN ?_ _ | refine blk_drew ?_ | refine blk_alloc ?_ _)); refine blk_put (cs := #[.slice Ao32 t273.length co32, .int .i64 0]) ?_ 1 _ rfl; (with_reducible repeat (first | refine blk_drewN ?_ _ | refine blk_drew ?_ | refine blk_alloc ?_ _)); refine blk_put (cs := #[.slice none 0 0, .int .i64 0]) ?_ 0 _ rfl; (with_reducible repeat (first | refine blk_drewN ?_ _ | refine blk_drew ?_ | refine blk_alloc ?_ _)); exact BK278.out) hg (Kd.R_ne HO_11.out BK278.out (by decide))); have n4_ := Aside0.mk (hb); have n5_ := Aside0.mk (ho); clear HO_263000; clear BK262; clear HO275; clear BK278; clear HB; clear HO_11; have HO_263000 := n0_; have BK262 := n1_; have HO275 := n2_; have BK278 := n3_; have HB := n4_; have HO281 := n5_; clear n0_ n1_ n2_ n3_ n4_ n5_; clear ho hb hg hat))
                go_roundg k1
                case measure => have := HK1.out; omega
                case rel => exact ⟨(y279), (wrap64 (x12_1 + 1)), (t273), (t276), (.slice Ao32 t273.length co32), (by first | rfl | (simp; done) | (simp [*]; done)), H', ⟨by have := HK1.out; omega⟩, ⟨by (with_reducible repeat (first | apply Kd.R_alloc | apply Kd.R_drewN | apply Kd.R_drew)); exact HO281.out⟩, ⟨by (with_reducible repeat (first | apply Kd.R_alloc | apply Kd.R_drewN | apply Kd.R_drew)); exact Kd.R_mono HO275.out (fun _ hk => trivial)⟩, ⟨by (with_reducible repeat (first | refine blk_drewN ?_ _ | refine blk_drew ?_ | refine blk_alloc ?_ _)); exact BK262.out⟩, ⟨by repeat (first | (with_reducible first | exact HB.out | apply below_alloc | apply pw_below_drewN | apply below_drew1 | refine below_set ?_ GE262.out | refine below_set ?_ GE278.out) | exact HB.out)⟩⟩
              · rw [if_neg c27] at H
                exact absurd H (by simp)
            · rw [if_neg c26] at H
              have c26b0 : (t277 == 0) = false := beq_eq_false_iff_ne.mpr c26
              have c26b1 : (t277 != 0) = true := bne_iff_ne.mpr c26
              obtain rfl := Option.some.inj H
              exact absurd hT_.out (by decide)
        · rw [if_neg c10] at H
          have c10b0 : decide (x12_1 < (wrap64 (1 + (Go.bits .and .i64 a1 15)))) = false := decide_eq_false c10
          clear c10
          replace H := Option.bind_eq_some_iff.mp H
          obtain ⟨t282, A370, H⟩ := H
          replace H : (heronrylaw21_SchedFair.l1 k1 l2 t261 (wrap64 (1 + (Go.bits .and .i64 a1 15))) x11_1 t282 0 x263000_1 x263001_1) = some r := H
          have A37 := Aside0.mk A370
          clear A370
          have H' := Aside0.mk H
          clear H
          have hcz38_0 : wr.cell? ⟨gb262, 0, none⟩ = some (u263000) := (blk_cell BK262.out 0).trans rfl
          have hcz38_1 : wr.cell? ⟨gb262, 1, none⟩ = some (.int .i64 x263001_1) := (blk_cell BK262.out 1).trans rfl
          have hfz38_0 := blk_frozen BK262.out 0
          have hfz38_1 := blk_frozen BK262.out 1
          obtain ⟨Ao39, co39, eo39⟩ := Kd.R_slice HO_263000.out
          subst eo39
          go_wp2_with (first | ((with_reducible refine gate_callee (f := 17) rfl ?_); refine goesL_ (some 62) rfl rfl Try.func17 (by kernel_rfl) rfl #[.agg #[.slice Ao39 x263000_1.length co39, .int .i64 x263001_1]] rfl (by (try simp only [List.map_toArray, List.map_cons, List.map_nil]); first | done | rfl | (simp only [List.length_drop, List.length_take]; rfl)) ?_; (with_reducible refine (sched_Bound.calls k1 _ _ x263000_1 x263001_1 t282 _ ?side1 ?side2 A37.out).mono ?_); (case side1 => repeat (first | exact (Kd.R_reads' HO_263000.out).2.2 | (with_reducible refine Kd.C_alloc ?_ _) | (with_reducible refine Kd.C_drewN ?_ _) | (with_reducible refine Kd.C_drew ?_))); (case side2 => exact (Kd.R_reads' HO_263000.out).2.1); rintro e w40 ⟨rfl, hb⟩; refine ⟨_, rfl, ?_⟩; have n0_ := Aside0.mk (Kd.R_below (by (with_reducible repeat (first | apply Kd.R_alloc | apply Kd.R_drewN | apply Kd.R_drew)); exact HO_11.out) hb); have n1_ := Aside0.mk (Kd.R_below (by (with_reducible repeat (first | apply Kd.R_alloc | apply Kd.R_drewN | apply Kd.R_drew)); exact HO_263000.out) hb); have n2_ := Aside0.mk (blk_below (g := gb262) (o := .cells #[.slice Ao39 x263000_1.length co39, .int .i64 x263001_1] 26 (0, 0)) (by (with_reducible repeat (first | refine blk_drewN ?_ _ | refine blk_drew ?_ | refine blk_alloc ?_ _)); exact BK262.out) hb); have n3_ := Aside0.mk (below_step (by repeat (first | (with_reducible first | exact HB.out | apply below_alloc | apply pw_below_drewN | apply below_drew1 | refine below_set ?_ GE262.out) | exact HB.out)) hb); clear HO_11; clear HO_263000; clear BK262; clear HB; have HO_11 := n0_; have HO_263000 := n1_; have BK262 := n2_; have HB := n3_; clear n0_ n1_ n2_ n3_; (try clear hb); (try clear hb2); (try clear hk); (try clear hi)))
          go_loopg [17] k1 (fun kq v17 w' => ∃ (x17_2 : Int) (x263000_2 : List (S44)) (x263001_2 : Int) (u263000 : Value), v17 = .int .i64 x17_2 ∧ Aside0 (heronrylaw21_SchedFair.l1 kq l2 t261 (wrap64 (1 + (Go.bits .and .i64 a1 15))) x11_1 t282 x17_2 x263000_2 x263001_2 = some r) ∧ Aside0 (kq ≤ k1) ∧ Aside0 (Kd.R (Kd.int .i64) 3 w' w.heap.size (fun _ => True) u11 x11_1) ∧ Aside0 (Kd.R k44 44 w' w.heap.size (fun _ => True) u263000 x263000_2) ∧ Aside0 (w'.heap[gb262]? = some (.cells #[u263000, .int .i64 x263001_2] 26 (0, 0))) ∧ Aside0 (Below w.heap.size w w'))
          case atStart => exact ⟨(0), (x263000_1), (x263001_1), (.slice Ao39 x263000_1.length co39), (by first | rfl | (simp; done) | (simp [*]; done)), H', ⟨Nat.le_refl _⟩, ⟨by (with_reducible repeat (first | apply Kd.R_alloc | apply Kd.R_drewN | apply Kd.R_drew)); exact HO_11.out⟩, ⟨by (with_reducible repeat (first | apply Kd.R_alloc | apply Kd.R_drewN | apply Kd.R_drew)); exact HO_263000.out⟩, ⟨by (with_reducible repeat (first | refine blk_drewN ?_ _ | refine blk_drew ?_ | refine blk_alloc ?_ _)); exact BK262.out⟩, ⟨by repeat (first | (with_reducible first | exact HB.out | apply below_alloc | apply pw_below_drewN | apply below_drew1 | refine below_set ?_ GE262.out) | exact HB.out)⟩⟩
          case round =>
            clear H'
            try clear c1
            try clear c2
            try clear p2
            try clear c3
            try clear c5
            try clear c5b0
            try clear c5b1
            try clear p6
            try clear c8
            try clear c10
            try clear c10b0
            try clear c12
            try clear c12b0
            try clear c12b1
            try clear c14
            try clear c14b0
            try clear c14b1
            try clear c15
            try clear c16
            try clear c17
            try clear c21
            try clear c26
            try clear c26b0
            try clear c26b1
            try clear c27
            try clear c33
            try clear hcz16_0
            try clear hcz16_1
            try clear hcz22_0
            try clear hcz22_1
            try clear hcz23_0
            try clear hcz23_1
            try clear hcz28_0
            try clear hcz28_1
            try clear hcz34_0
            try clear hcz34_1
            try clear hcz35_0
            try clear hcz35_1
            try clear hcz38_0
            try clear hcz38_1
            try clear hcz9_0
            try clear hcz9_1
            try clear hfz16_0
            try clear hfz16_1
            try clear hfz22_0
            try clear hfz22_1
            try clear hfz23_0
            try clear hfz23_1
            try clear hfz28_0
            try clear hfz28_1
            try clear hfz34_0
            try clear hfz34_1
            try clear hfz35_0
            try clear hfz35_1
            try clear hfz38_0
            try clear hfz38_1
            try clear hfz9_0
            try clear hfz9_1
            try clear p2
            try clear p6
            obtain ⟨x17_2, x263000_2, x263001_2, u263000, rfl, HA, HK2, HO_11, HO_263000, BK262, HB⟩ := hrel
            cases gk with
            | zero => exact absurd HA.out (by simp [heronrylaw21_SchedFair.l1])
            | succ k2 =>
              have H := HA.out
              clear HA
              simp only [heronrylaw21_SchedFair.l1] at H
              by_cases c41 : x17_2 < t282
              · rw [if_pos c41] at H
                have c41b0 : decide (x17_2 < t282) = true := decide_eq_true c41
                clear c41
                replace H := Option.bind_eq_some_iff.mp H
                obtain ⟨⟨t283, t286, t287, t288⟩, A420, H⟩ := H
                replace H : (if t288 = 0 then (if t287 = (wrap64 ((wrap64 (1 + (Go.bits .and .i64 a1 15))) - 1)) then (some t261) else ((float_Of.f 9).bind fun t290 => (if x17_2 < (l2.length : Int) then (if 0 ≤ x17_2 then ((float_Class.f (rd l2 x17_2)).bind fun t292 => (heronrylaw21_SchedFair.j2 k2 l2 t261 (wrap64 (1 + (Go.bits .and .i64 a1 15))) x11_1 t282 x17_2 t287 t290 (t292 != 4) t283 t286)) else (none)) else (heronrylaw21_SchedFair.j2 k2 l2 t261 (wrap64 (1 + (Go.bits .and .i64 a1 15))) x11_1 t282 x17_2 t287 t290 false t283 t286)))) else (some false)) = some r := H
                have A42 := Aside0.mk A420
                clear A420
                by_cases c43 : t288 = 0
                · rw [if_pos c43] at H
                  have c43b0 : (t288 == 0) = true := beq_iff_eq.mpr c43
                  have c43b1 : (t288 != 0) = false := bne_eq_false_iff_eq.mpr c43
                  clear c43
                  by_cases c44 : t287 = (wrap64 ((wrap64 (1 + (Go.bits .and .i64 a1 15))) - 1))
                  · rw [if_pos c44] at H
                    have c44b0 : (t287 == (wrap64 ((wrap64 (1 + (Go.bits .and .i64 a1 15))) - 1))) = true := beq_iff_eq.mpr c44
                    have c44b1 : (t287 != (wrap64 ((wrap64 (1 + (Go.bits .and .i64 a1 15))) - 1))) = false := bne_eq_false_iff_eq.mpr c44
                    clear c44
                    obtain rfl := Option.some.inj H
                    have hcz45_0 : wr.cell? ⟨gb262, 0, none⟩ = some (u263000) := (blk_cell BK262.out 0).trans rfl
                    have hcz45_1 : wr.cell? ⟨gb262, 1, none⟩ = some (.int .i64 x263001_2) := (blk_cell BK262.out 1).trans rfl
                    have hfz45_0 := blk_frozen BK262.out 0
                    have hfz45_1 := blk_frozen BK262.out 1
                    obtain ⟨Ao46, co46, eo46⟩ := Kd.R_slice HO_263000.out
                    subst eo46
                    obtain ⟨Ao47, co47, eo47⟩ := Kd.R_slice HO_11.out
                    subst eo47
                    go_wp2_with (first | ((with_reducible refine gate_callee (f := 11) rfl ?_); refine goesL_ (some 71) rfl rfl Try.func11 (by kernel_rfl) rfl #[.agg #[.slice Ao46 x263000_2.length co46, .int .i64 x263001_2], .slice Ao47 x11_1.length co47] rfl (by (try simp only [List.map_toArray, List.map_cons, List.map_nil]); first | done | rfl | (simp only [List.length_drop, List.length_take]; rfl)) ?_; (with_reducible refine (sched_Pick.calls k2 _ _ x263000_2 x263001_2 _ _ x11_1 t283 t286 t287 t288 _ ?side1 ?side2 ?side3 ?side4 A42.out).mono ?_); (case side1 => repeat (first | exact (Kd.R_reads' HO_263000.out).2.2 | (with_reducible refine Kd.C_alloc ?_ _) | (with_reducible refine Kd.C_drewN ?_ _) | (with_reducible refine Kd.C_drew ?_))); (case side2 => exact (Kd.R_reads' HO_263000.out).2.1); (case side3 => repeat (first | exact (Kd.R_reads' HO_11.out).2.2 | (with_reducible refine Kd.C_alloc ?_ _) | (with_reducible refine Kd.C_drewN ?_ _) | (with_reducible refine Kd.C_drew ?_))); (case side4 => exact (Kd.R_reads' HO_11.out).2.1); rintro e w48 ⟨v284, rfl, ho0, hb⟩; refine ⟨_, rfl, ?_⟩; have n0_ := Aside0.mk (Kd.R_below (by (with_reducible repeat (first | apply Kd.R_alloc | apply Kd.R_drewN | apply Kd.R_drew)); exact HO_11.out) hb); have n1_ := Aside0.mk (Kd.R_elder' (by (with_reducible repeat (first | apply Kd.R_alloc | apply Kd.R_drewN | apply Kd.R_drew)); exact HO_263000.out) (Kd.R_base ho0) hb); have n2_ := Aside0.mk (Kd.R_lower (Kd.R_new' ho0 (Kd.R_lt (by (with_reducible repeat (first | apply Kd.R_alloc | apply Kd.R_drewN | apply Kd.R_drew)); exact HO_263000.out))) (below_size (by repeat (first | (with_reducible first | exact HB.out | apply below_alloc | apply pw_below_drewN | apply below_drew1 | refine below_set ?_ GE262.out) | exact HB.out)))); have n3_ := Aside0.mk (blk_below (g := gb262) (o := .cells #[.slice Ao46 x263000_2.length co46, .int .i64 x263001_2] 26 (0, 0)) (by (with_reducible repeat (first | refine blk_drewN ?_ _ | refine blk_drew ?_ | refine blk_alloc ?_ _)); exact BK262.out) hb); have n4_ := Aside0.mk (below_step (by repeat (first | (with_reducible first | exact HB.out | apply below_alloc | apply pw_below_drewN | apply below_drew1 | refine below_set ?_ GE262.out) | exact HB.out)) hb); clear HO_11; clear HO_263000; clear BK262; clear HB; have HO_11 := n0_; have HO_263000 := n1_; have HO285 := n2_; have BK262 := n3_; have HB := n4_; clear n0_ n1_ n2_ n3_ n4_; (try clear hb); (try clear hb2); (try clear hk); (try clear hi); (try clear ho0)) | ((with_reducible refine gate_dst (N := 18) rfl ?_); refine box_event ?hg (N := 18) ?hd (cs := #[.slice none 0 0, .int .i64 0]) (t := 26) ?hr ?_; (case hd => rfl); (case hg => rfl); (case hr => first | (go_simp; done) | (go_simp; rfl)); intro gb289 hg w49 hbox hb; have n0_ := Aside0.mk (Kd.R_below (by (with_reducible repeat (first | apply Kd.R_alloc | apply Kd.R_drewN | apply Kd.R_drew)); exact HO_11.out) hb); have n1_ := Aside0.mk (Kd.R_below (by (with_reducible repeat (first | apply Kd.R_alloc | apply Kd.R_drewN | apply Kd.R_drew)); exact HO_263000.out) hb); have n2_ := Aside0.mk (Kd.R_below (by (with_reducible repeat (first | apply Kd.R_alloc | apply Kd.R_drewN | apply Kd.R_drew)); exact HO285.out) hb); have n3_ := Aside0.mk (blk_below (g := gb262) (o := .cells #[.slice Ao46 x263000_2.length co46, .int .i64 x263001_2] 26 (0, 0)) (by (with_reducible repeat (first | refine blk_drewN ?_ _ | refine blk_drew ?_ | refine blk_alloc ?_ _)); exact BK262.out) hb); have n4_ := Aside0.mk (below_step (by repeat (first | (with_reducible first | exact HB.out | apply below_alloc | apply pw_below_drewN | apply below_drew1 | refine below_set ?_ GE262.out) | exact HB.out)) hb); have n5_ := Aside0.mk (hbox); have n6_ := Aside0.mk ((by rw [hg]; exact (below_size (by repeat (first | (with_reducible first | exact HB.out | apply below_alloc | apply pw_below_drewN | apply below_drew1 | refine below_set ?_ GE262.out) | exact HB.out))) : w.heap.size ≤ gb289)); have n7_ := Aside0.mk ((by rw [hg]; exact (below_size (by repeat (first | (with_reducible first | exact HB.out | apply below_alloc | apply pw_below_drewN | apply below_drew1 | refine below_set ?_ GE262.out) | exact HB.out))) : w.heap.size ≤ gb289)); have n8_ := Aside0.mk ((by rw [hg]; exact Nat.ne_of_lt (blk_lt (g := gb262) (o := .cells #[.slice Ao46 x263000_2.length co46, .int .i64 x263001_2] 26 (0, 0)) (by (with_reducible repeat (first | refine blk_drewN ?_ _ | refine blk_drew ?_ | refine blk_alloc ?_ _)); exact BK262.out)) : gb262 ≠ gb289)); have n9_ := Aside0.mk ((by rw [hg]; exact Nat.ne_of_gt (blk_lt (g := gb262) (o := .cells #[.slice Ao46 x263000_2.length co46, .int .i64 x263001_2] 26 (0, 0)) (by (with_reducible repeat (first | refine blk_drewN ?_ _ | refine blk_drew ?_ | refine blk_alloc ?_ _)); exact BK262.out)) : gb289 ≠ gb262)); clear HO_11; clear HO_263000; clear HO285; clear BK262; clear HB; have HO_11 := n0_; have HO_263000 := n1_; have HO285 := n2_; have BK262 := n3_; have HB := n4_; have BK289 := n5_; have GW289 := n6_; have GE289 := n7_; have NB262_289 := n8_; have NB289_262 := n9_; clear n0_ n1_ n2_ n3_ n4_ n5_ n6_ n7_ n8_ n9_; clear hb hbox hg; obtain ⟨Ao50, co50, eo50⟩ := Kd.R_slice HO285.out; subst eo50; have hnb51 := NB289_262.out; have hnc51 := NB262_289.out; have hcz52_0 : w49.cell? ⟨gb289, 0, none⟩ = some (.slice none 0 0) := (blk_cell BK289.out 0).trans rfl; have hcz52_1 : w49.cell? ⟨gb289, 1, none⟩ = some (.int .i64 0) := (blk_cell BK289.out 1).trans rfl; have hfz52_0 := blk_frozen BK289.out 0; have hfz52_1 := blk_frozen BK289.out 1))
                    go_ret
                    exact ⟨by first | rfl | (simp [errW_none, errW_some] <;> rfl) | (simp [*, errW_none, errW_some] <;> rfl), by repeat (first | (with_reducible first | exact HB.out | apply below_alloc | apply pw_below_drewN | apply below_drew1 | refine below_set ?_ GE262.out | refine below_set ?_ GE289.out) | exact HB.out)⟩
                  · rw [if_neg c44] at H
                    have c44b0 : (t287 == (wrap64 ((wrap64 (1 + (Go.bits .and .i64 a1 15))) - 1))) = false := beq_eq_false_iff_ne.mpr c44
                    have c44b1 : (t287 != (wrap64 ((wrap64 (1 + (Go.bits .and .i64 a1 15))) - 1))) = true := bne_iff_ne.mpr c44
                    replace H := Option.bind_eq_some_iff.mp H
                    obtain ⟨t290, A530, H⟩ := H
                    replace H : (if x17_2 < (l2.length : Int) then (if 0 ≤ x17_2 then ((float_Class.f (rd l2 x17_2)).bind fun t292 => (heronrylaw21_SchedFair.j2 k2 l2 t261 (wrap64 (1 + (Go.bits .and .i64 a1 15))) x11_1 t282 x17_2 t287 t290 (t292 != 4) t283 t286)) else (none)) else (heronrylaw21_SchedFair.j2 k2 l2 t261 (wrap64 (1 + (Go.bits .and .i64 a1 15))) x11_1 t282 x17_2 t287 t290 false t283 t286)) = some r := H
                    have A53 := Aside0.mk A530
                    clear A530
                    have HC54 := Aside0.mk H
                    clear H
                    have hcz55_0 : wr.cell? ⟨gb262, 0, none⟩ = some (u263000) := (blk_cell BK262.out 0).trans rfl
                    have hcz55_1 : wr.cell? ⟨gb262, 1, none⟩ = some (.int .i64 x263001_2) := (blk_cell BK262.out 1).trans rfl
                    have hfz55_0 := blk_frozen BK262.out 0
                    have hfz55_1 := blk_frozen BK262.out 1
                    obtain ⟨Ao56, co56, eo56⟩ := Kd.R_slice HO_263000.out
                    subst eo56
                    obtain ⟨Ao57, co57, eo57⟩ := Kd.R_slice HO_11.out
                    subst eo57
                    go_upto_region 29 with (first | ((with_reducible refine gate_callee (f := 11) rfl ?_); refine goesL_ (some 71) rfl rfl Try.func11 (by kernel_rfl) rfl #[.agg #[.slice Ao56 x263000_2.length co56, .int .i64 x263001_2], .slice Ao57 x11_1.length co57] rfl (by (try simp only [List.map_toArray, List.map_cons, List.map_nil]); first | done | rfl | (simp only [List.length_drop, List.length_take]; rfl)) ?_; (with_reducible refine (sched_Pick.calls k2 _ _ x263000_2 x263001_2 _ _ x11_1 t283 t286 t287 t288 _ ?side1 ?side2 ?side3 ?side4 A42.out).mono ?_); (case side1 => repeat (first | exact (Kd.R_reads' HO_263000.out).2.2 | (with_reducible refine Kd.C_alloc ?_ _) | (with_reducible refine Kd.C_drewN ?_ _) | (with_reducible refine Kd.C_drew ?_))); (case side2 => exact (Kd.R_reads' HO_263000.out).2.1); (case side3 => repeat (first | exact (Kd.R_reads' HO_11.out).2.2 | (with_reducible refine Kd.C_alloc ?_ _) | (with_reducible refine Kd.C_drewN ?_ _) | (with_reducible refine Kd.C_drew ?_))); (case side4 => exact (Kd.R_reads' HO_11.out).2.1); rintro e w58 ⟨v284, rfl, ho0, hb⟩; refine ⟨_, rfl, ?_⟩; have n0_ := Aside0.mk (Kd.R_below (by (with_reducible repeat (first | apply Kd.R_alloc | apply Kd.R_drewN | apply Kd.R_drew)); exact HO_11.out) hb); have n1_ := Aside0.mk (Kd.R_elder' (by (with_reducible repeat (first | apply Kd.R_alloc | apply Kd.R_drewN | apply Kd.R_drew)); exact HO_263000.out) (Kd.R_base ho0) hb); have n2_ := Aside0.mk (Kd.R_lower (Kd.R_new' ho0 (Kd.R_lt (by (with_reducible repeat (first | apply Kd.R_alloc | apply Kd.R_drewN | apply Kd.R_drew)); exact HO_263000.out))) (below_size (by repeat (first | (with_reducible first | exact HB.out | apply below_alloc | apply pw_below_drewN | apply below_drew1 | refine below_set ?_ GE262.out) | exact HB.out)))); have n3_ := Aside0.mk (blk_below (g := gb262) (o := .cells #[.slice Ao56 x263000_2.length co56, .int .i64 x263001_2] 26 (0, 0)) (by (with_reducible repeat (first | refine blk_drewN ?_ _ | refine blk_drew ?_ | refine blk_alloc ?_ _)); exact BK262.out) hb); have n4_ := Aside0.mk (below_step (by repeat (first | (with_reducible first | exact HB.out | apply below_alloc | apply pw_below_drewN | apply below_drew1 | refine below_set ?_ GE262.out) | exact HB.out)) hb); clear HO_11; clear HO_263000; clear BK262; clear HB; have HO_11 := n0_; have HO_263000 := n1_; have HO285 := n2_; have BK262 := n3_; have HB := n4_; clear n0_ n1_ n2_ n3_ n4_; (try clear hb); (try clear hb2); (try clear hk); (try clear hi); (try clear ho0)) | ((with_reducible refine gate_dst (N := 18) rfl ?_); refine box_event ?hg (N := 18) ?hd (cs := #[.slice none 0 0, .int .i64 0]) (t := 26) ?hr ?_; (case hd => rfl); (case hg => rfl); (case hr => first | (go_simp; done) | (go_simp; rfl)); intro gb289 hg w59 hbox hb; have n0_ := Aside0.mk (Kd.R_below (by (with_reducible repeat (first | apply Kd.R_alloc | apply Kd.R_drewN | apply Kd.R_drew)); exact HO_11.out) hb); have n1_ := Aside0.mk (Kd.R_below (by (with_reducible repeat (first | apply Kd.R_alloc | apply Kd.R_drewN | apply Kd.R_drew)); exact HO_263000.out) hb); have n2_ := Aside0.mk (Kd.R_below (by (with_reducible repeat (first | apply Kd.R_alloc | apply Kd.R_drewN | apply Kd.R_drew)); exact HO285.out) hb); have n3_ := Aside0.mk (blk_below (g := gb262) (o := .cells #[.slice Ao56 x263000_2.length co56, .int .i64 x263001_2] 26 (0, 0)) (by (with_reducible repeat (first | refine blk_drewN ?_ _ | refine blk_drew ?_ | refine blk_alloc ?_ _)); exact BK262.out) hb); have n4_ := Aside0.mk (below_step (by repeat (first | (with_reducible first | exact HB.out | apply below_alloc | apply pw_below_drewN | apply below_drew1 | refine below_set ?_ GE262.out) | exact HB.out)) hb); have n5_ := Aside0.mk (hbox); have n6_ := Aside0.mk ((by rw [hg]; exact (below_size (by repeat (first | (with_reducible first | exact HB.out | apply below_alloc | apply pw_below_drewN | apply below_drew1 | refine below_set ?_ GE262.out) | exact HB.out))) : w.heap.size ≤ gb289)); have n7_ := Aside0.mk ((by rw [hg]; exact (below_size (by repeat (first | (with_reducible first | exact HB.out | apply below_alloc | apply pw_below_drewN | apply below_drew1 | refine below_set ?_ GE262.out) | exact HB.out))) : w.heap.size ≤ gb289)); have n8_ := Aside0.mk ((by rw [hg]; exact Nat.ne_of_lt (blk_lt (g := gb262) (o := .cells #[.slice Ao56 x263000_2.length co56, .int .i64 x263001_2] 26 (0, 0)) (by (with_reducible repeat (first | refine blk_drewN ?_ _ | refine blk_drew ?_ | refine blk_alloc ?_ _)); exact BK262.out)) : gb262 ≠ gb289)); have n9_ := Aside0.mk ((by rw [hg]; exact Nat.ne_of_gt (blk_lt (g := gb262) (o := .cells #[.slice Ao56 x263000_2.length co56, .int .i64 x263001_2] 26 (0, 0)) (by (with_reducible repeat (first | refine blk_drewN ?_ _ | refine blk_drew ?_ | refine blk_alloc ?_ _)); exact BK262.out)) : gb289 ≠ gb262)); clear HO_11; clear HO_263000; clear HO285; clear BK262; clear HB; have HO_11 := n0_; have HO_263000 := n1_; have HO285 := n2_; have BK262 := n3_; have HB := n4_; have BK289 := n5_; have GW289 := n6_; have GE289 := n7_; have NB262_289 := n8_; have NB289_262 := n9_; clear n0_ n1_ n2_ n3_ n4_ n5_ n6_ n7_ n8_ n9_; clear hb hbox hg; obtain ⟨Ao60, co60, eo60⟩ := Kd.R_slice HO285.out; subst eo60; have hnb61 := NB289_262.out; have hnc61 := NB262_289.out; have hcz62_0 : w59.cell? ⟨gb289, 0, none⟩ = some (.slice none 0 0) := (blk_cell BK289.out 0).trans rfl; have hcz62_1 : w59.cell? ⟨gb289, 1, none⟩ = some (.int .i64 0) := (blk_cell BK289.out 1).trans rfl; have hfz62_0 := blk_frozen BK289.out 0; have hfz62_1 := blk_frozen BK289.out 1) | ((with_reducible refine gate_callee (f := 16) rfl ?_); refine goesL_ (some 82) rfl rfl Try.func16 (by kernel_rfl) rfl #[.int .i64 9] rfl (by (try simp only [List.map_toArray, List.map_cons, List.map_nil]); first | done | rfl | (simp only [List.length_drop, List.length_take]; rfl)) ?_; (with_reducible refine (float_Of.calls 9 t290 _ A53.out).mono ?_); rintro e w' ⟨rfl, ⟨nd, rfl⟩⟩; refine ⟨_, rfl, ?_⟩))
                    (try simp only [Act.put, List.setIfInBounds_toArray, List.set_cons_zero, List.set_cons_succ])
                    go_cut [94] (fun v94 wc => ∃ (kq : Nat) (x94_53 : Bool), v94 = .bool x94_53 ∧ Aside0 (heronrylaw21_SchedFair.j2 kq l2 t261 (wrap64 (1 + (Go.bits .and .i64 a1 15))) x11_1 t282 x17_2 t287 t290 x94_53 t283 t286 = some r) ∧ Aside0 (kq ≤ k2) ∧ Aside0 (Kd.R (Kd.int .i64) 3 wc w.heap.size (fun _ => True) (.slice Ao57 x11_1.length co57) x11_1) ∧ Aside0 (Kd.R k44 44 wc w.heap.size (fun k_ => some k_ ≠ ((.slice Ao60 t283.length co60) : Value).ownBlock) (.slice Ao56 x263000_2.length co56) x263000_2) ∧ Aside0 (Kd.R k44 44 wc w.heap.size (fun k_ => some k_ ≠ ((.slice Ao56 x263000_2.length co56) : Value).ownBlock) (.slice Ao60 t283.length co60) t283) ∧ Aside0 (wc.heap[gb262]? = some (.cells #[(.slice Ao56 x263000_2.length co56), .int .i64 x263001_2] 26 (0, 0))) ∧ Aside0 (wc.heap[gb289]? = some (.cells #[(.slice Ao60 t283.length co60), .int .i64 t286] 26 (0, 0))) ∧ Aside0 (Below w.heap.size w wc))
                    case first =>
                      have H := HC54.out
                      clear HC54
                      by_cases c63 : x17_2 < (l2.length : Int)
                      · rw [if_pos c63] at H
                        have c63b0 : decide (x17_2 < (l2.length : Int)) = true := decide_eq_true c63
                        clear c63
                        (first | rw [c63b0] | (simp only [i64_w, i32_w]; rw [c63b0]) | skip)
                        by_cases c64 : 0 ≤ x17_2
                        · rw [if_pos c64] at H
                          have c64b0 : decide (0 ≤ x17_2) = true := decide_eq_true c64
                          clear c64
                          replace H := Option.bind_eq_some_iff.mp H
                          obtain ⟨t292, A650, H⟩ := H
                          replace H : (heronrylaw21_SchedFair.j2 k2 l2 t261 (wrap64 (1 + (Go.bits .and .i64 a1 15))) x11_1 t282 x17_2 t287 t290 (t292 != 4) t283 t286) = some r := H
                          have A65 := Aside0.mk A650
                          clear A650
                          have H' := Aside0.mk H
                          clear H
                          have p291 : 0 ≤ (x17_2 : Int) := of_decide_eq_true (by first | (with_reducible assumption) | assumption)
                          have q291 : x17_2 < (l2.length : Int) := of_decide_eq_true (by first | (with_reducible assumption) | assumption)
                          obtain ⟨ad291, e291, hx291_0⟩ := Kd.at_int HR2.out x17_2 p291 q291
                          cases e291
                          have hn291_0 : ad291.block ≠ gb289 := Nat.ne_of_lt (Nat.lt_of_lt_of_le (by have := World.block_lt_of_cell? _ _ hx291_0; first | rwa [add_block] at this | exact this) GW289.out)
                          have hn291_1 : ad291.block ≠ gb289 := Nat.ne_of_lt (Nat.lt_of_lt_of_le (by have := World.block_lt_of_cell? _ _ hx291_0; first | rwa [add_block] at this | exact this) GW289.out)
                          replace hx291_0 := (HB.out.cell (World.block_lt_of_cell? w _ hx291_0)).trans hx291_0
                          replace hx291_0 := (cell_far (p := ⟨gb289, 0, none⟩) (by first | (rw [add_block]; exact hn291_0) | (show (Addr.add _ _).block ≠ _; rw [add_block]; exact hn291_0) | exact hn291_0) (.slice Ao60 t283.length co60)).trans hx291_0
                          replace hx291_0 := (cell_far (p := ⟨gb289, 1, none⟩) (by first | (rw [add_block]; exact hn291_1) | (show (Addr.add _ _).block ≠ _; rw [add_block]; exact hn291_1) | exact hn291_1) (.int .i64 t286)).trans hx291_0
                          clear hn291_0
                          clear hn291_1
                          replace p291 := eq_true p291
                          replace q291 := eq_true q291
                          go_wp2_with (first | (go_at_call 9; (with_reducible refine (float_Class.calls (rd l2 x17_2) t292 _ A65.out).mono ?_); rintro e w' ⟨rfl, ⟨nd, rfl⟩⟩))
                          go_meet
                          case rel => exact ⟨_, ((t292 != 4)), (by first | rfl | (simp; done) | (simp [*]; done)), H', ⟨by have := HK1.out; have := HK2.out; first | omega | exact Nat.le_refl _⟩, ⟨by (with_reducible repeat (first | apply Kd.R_alloc | apply Kd.R_drewN | apply Kd.R_drew)); exact Kd.R_mono (Kd.R_far (p := ⟨gb289, 1, none⟩) (Kd.R_far (p := ⟨gb289, 0, none⟩) (Kd.R_types HO_11.out BK289.out (by decide)) (fun _ hk => hk.2) (.slice Ao60 t283.length co60)) (fun _ hk => hk.2) (.int .i64 t286)) (fun _ hk => trivial)⟩, ⟨by (with_reducible repeat (first | apply Kd.R_alloc | apply Kd.R_drewN | apply Kd.R_drew)); exact Kd.R_mono (Kd.R_far (p := ⟨gb289, 1, none⟩) (Kd.R_far (p := ⟨gb289, 0, none⟩) (Kd.R_types HO_263000.out BK289.out (by decide)) (fun _ hk => hk.2) (.slice Ao60 t283.length co60)) (fun _ hk => hk.2) (.int .i64 t286)) (fun _ hk => hk.1.2)⟩, ⟨by (with_reducible repeat (first | apply Kd.R_alloc | apply Kd.R_drewN | apply Kd.R_drew)); exact Kd.R_mono (Kd.R_far (p := ⟨gb289, 1, none⟩) (Kd.R_far (p := ⟨gb289, 0, none⟩) (Kd.R_types HO285.out BK289.out (by decide)) (fun _ hk => hk.2) (.slice Ao60 t283.length co60)) (fun _ hk => hk.2) (.int .i64 t286)) (fun _ hk => hk.1.2)⟩, ⟨by (with_reducible repeat (first | refine blk_drewN ?_ _ | refine blk_drew ?_ | refine blk_alloc ?_ _)); refine blk_far ?_ NB262_289.out _; (with_reducible repeat (first | refine blk_drewN ?_ _ | refine blk_drew ?_ | refine blk_alloc ?_ _)); refine blk_far ?_ NB262_289.out _; (with_reducible repeat (first | refine blk_drewN ?_ _ | refine blk_drew ?_ | refine blk_alloc ?_ _)); exact BK262.out⟩, ⟨by (with_reducible repeat (first | refine blk_drewN ?_ _ | refine blk_drew ?_ | refine blk_alloc ?_ _)); refine blk_put (cs := #[.slice Ao60 t283.length co60, .int .i64 0]) ?_ 1 _ rfl; (with_reducible repeat (first | refine blk_drewN ?_ _ | refine blk_drew ?_ | refine blk_alloc ?_ _)); refine blk_put (cs := #[.slice none 0 0, .int .i64 0]) ?_ 0 _ rfl; (with_reducible repeat (first | refine blk_drewN ?_ _ | refine blk_drew ?_ | refine blk_alloc ?_ _)); exact BK289.out⟩, ⟨by repeat (first | (with_reducible first | exact HB.out | apply below_alloc | apply pw_below_drewN | apply below_drew1 | refine below_set ?_ GE262.out | refine below_set ?_ GE289.out) | exact HB.out)⟩⟩
                        · rw [if_neg c64] at H
                          exact absurd H (by simp)
                      · rw [if_neg c63] at H
                        have c63b0 : decide (x17_2 < (l2.length : Int)) = false := decide_eq_false c63
                        clear c63
                        (first | rw [c63b0] | (simp only [i64_w, i32_w]; rw [c63b0]) | skip)
                        have H' := Aside0.mk H
                        clear H
                        go_wp2
                        go_meet
                        case rel => exact ⟨_, (false), (by first | rfl | (simp; done) | (simp [*]; done)), H', ⟨by have := HK1.out; have := HK2.out; first | omega | exact Nat.le_refl _⟩, ⟨by (with_reducible repeat (first | apply Kd.R_alloc | apply Kd.R_drewN | apply Kd.R_drew)); exact Kd.R_mono (Kd.R_far (p := ⟨gb289, 1, none⟩) (Kd.R_far (p := ⟨gb289, 0, none⟩) (Kd.R_types HO_11.out BK289.out (by decide)) (fun _ hk => hk.2) (.slice Ao60 t283.length co60)) (fun _ hk => hk.2) (.int .i64 t286)) (fun _ hk => trivial)⟩, ⟨by (with_reducible repeat (first | apply Kd.R_alloc | apply Kd.R_drewN | apply Kd.R_drew)); exact Kd.R_mono (Kd.R_far (p := ⟨gb289, 1, none⟩) (Kd.R_far (p := ⟨gb289, 0, none⟩) (Kd.R_types HO_263000.out BK289.out (by decide)) (fun _ hk => hk.2) (.slice Ao60 t283.length co60)) (fun _ hk => hk.2) (.int .i64 t286)) (fun _ hk => hk.1.2)⟩, ⟨by (with_reducible repeat (first | apply Kd.R_alloc | apply Kd.R_drewN | apply Kd.R_drew)); exact Kd.R_mono (Kd.R_far (p := ⟨gb289, 1, none⟩) (Kd.R_far (p := ⟨gb289, 0, none⟩) (Kd.R_types HO285.out BK289.out (by decide)) (fun _ hk => hk.2) (.slice Ao60 t283.length co60)) (fun _ hk => hk.2) (.int .i64 t286)) (fun _ hk => hk.1.2)⟩, ⟨by (with_reducible repeat (first | refine blk_drewN ?_ _ | refine blk_drew ?_ | refine blk_alloc ?_ _)); refine blk_far ?_ NB262_289.out _; (with_reducible repeat (first | refine blk_drewN ?_ _ | refine blk_drew ?_ | refine blk_alloc ?_ _)); refine blk_far ?_ NB262_289.out _; (with_reducible repeat (first | refine blk_drewN ?_ _ | refine blk_drew ?_ | refine blk_alloc ?_ _)); exact BK262.out⟩, ⟨by (with_reducible repeat (first | refine blk_drewN ?_ _ | refine blk_drew ?_ | refine blk_alloc ?_ _)); refine blk_put (cs := #[.slice Ao60 t283.length co60, .int .i64 0]) ?_ 1 _ rfl; (with_reducible repeat (first | refine blk_drewN ?_ _ | refine blk_drew ?_ | refine blk_alloc ?_ _)); refine blk_put (cs := #[.slice none 0 0, .int .i64 0]) ?_ 0 _ rfl; (with_reducible repeat (first | refine blk_drewN ?_ _ | refine blk_drew ?_ | refine blk_alloc ?_ _)); exact BK289.out⟩, ⟨by repeat (first | (with_reducible first | exact HB.out | apply below_alloc | apply pw_below_drewN | apply below_drew1 | refine below_set ?_ GE262.out | refine below_set ?_ GE289.out) | exact HB.out)⟩⟩
                    case rest =>
                      clear HC54
                      try clear c1
                      try clear c2
                      try clear p2
                      try clear q2
                      try clear hx2
                      try clear c3
                      try clear c4
                      try clear c5
                      try clear c5b0
                      try clear c5b1
                      try clear c6
                      try clear p6
                      try clear c8
                      try clear c10
                      try clear c10b0
                      try clear c11
                      try clear c12
                      try clear c12b0
                      try clear c12b1
                      try clear c14
                      try clear c14b0
                      try clear c14b1
                      try clear c15
                      try clear c16
                      try clear c17
                      try clear c21
                      try clear c26
                      try clear c26b0
                      try clear c26b1
                      try clear c27
                      try clear p29
                      try clear q29
                      try clear hx29
                      try clear c33
                      try clear c41
                      try clear c41b0
                      try clear c43
                      try clear c43b0
                      try clear c43b1
                      try clear c44
                      try clear c44b0
                      try clear c44b1
                      try clear c51
                      try clear c61
                      try clear c63
                      try clear c63b0
                      try clear c64
                      try clear c64b0
                      try clear p64
                      try clear hcz16_0
                      try clear hcz16_1
                      try clear hcz22_0
                      try clear hcz22_1
                      try clear hcz23_0
                      try clear hcz23_1
                      try clear hcz28_0
                      try clear hcz28_1
                      try clear hcz34_0
                      try clear hcz34_1
                      try clear hcz35_0
                      try clear hcz35_1
                      try clear hcz38_0
                      try clear hcz38_1
                      try clear hcz45_0
                      try clear hcz45_1
                      try clear hcz52_0
                      try clear hcz52_1
                      try clear hcz55_0
                      try clear hcz55_1
                      try clear hcz62_0
                      try clear hcz62_1
                      try clear hcz9_0
                      try clear hcz9_1
                      try clear hfz16_0
                      try clear hfz16_1
                      try clear hfz22_0
                      try clear hfz22_1
                      try clear hfz23_0
                      try clear hfz23_1
                      try clear hfz28_0
                      try clear hfz28_1
                      try clear hfz34_0
                      try clear hfz34_1
                      try clear hfz35_0
                      try clear hfz35_1
                      try clear hfz38_0
                      try clear hfz38_1
                      try clear hfz45_0
                      try clear hfz45_1
                      try clear hfz52_0
                      try clear hfz52_1
                      try clear hfz55_0
                      try clear hfz55_1
                      try clear hfz62_0
                      try clear hfz62_1
                      try clear hfz9_0
                      try clear hfz9_1
                      try clear hx291_0
                      try clear p2
                      try clear p291
                      try clear p6
                      try clear q291
                      obtain ⟨kq, x94_53, rfl, HA, HJ53, HO_11, HO_263000, HO_290000, BK262, BK289, HB⟩ := hcut
                      cases kq with
                      | zero => exact absurd HA.out (by simp [heronrylaw21_SchedFair.j2])
                      | succ kj53 =>
                        have H := HA.out
                        clear HA
                        simp only [heronrylaw21_SchedFair.j2] at H
                        by_cases c66 : x94_53 = true
                        · subst c66
                          have H1 : (if 0 ≤ x17_2 then (if x17_2 < (l2.length : Int) then ((sched_Add.f kj53 t283 t286 t287 (rd l2 x17_2)).bind fun bt294 => (if bt294.2.2 = 0 then (heronrylaw21_SchedFair.l1 kj53 l2 t261 (wrap64 (1 + (Go.bits .and .i64 a1 15))) x11_1 t282 (wrap64 (x17_2 + 1)) bt294.1 bt294.2.1) else (some false))) else (none)) else (none)) = some r := by rw [if_pos rfl] at H; exact H
                          clear H
                          have H := H1
                          clear H1
                          by_cases c67 : 0 ≤ x17_2
                          · rw [if_pos c67] at H
                            have c67b0 : decide (0 ≤ x17_2) = true := decide_eq_true c67
                            clear c67
                            by_cases c68 : x17_2 < (l2.length : Int)
                            · rw [if_pos c68] at H
                              have c68b0 : decide (x17_2 < (l2.length : Int)) = true := decide_eq_true c68
                              clear c68
                              replace H := Option.bind_eq_some_iff.mp H
                              obtain ⟨⟨t294, t297, t298⟩, A690, H⟩ := H
                              replace H : (if t298 = 0 then (heronrylaw21_SchedFair.l1 kj53 l2 t261 (wrap64 (1 + (Go.bits .and .i64 a1 15))) x11_1 t282 (wrap64 (x17_2 + 1)) t294 t297) else (some false)) = some r := H
                              have A69 := Aside0.mk A690
                              clear A690
                              by_cases c70 : t298 = 0
                              · rw [if_pos c70] at H
                                have c70b0 : (t298 == 0) = true := beq_iff_eq.mpr c70
                                have c70b1 : (t298 != 0) = false := bne_eq_false_iff_eq.mpr c70
                                clear c70
                                have H' := Aside0.mk H
                                clear H
                                have p293 : 0 ≤ (x17_2 : Int) := of_decide_eq_true (by first | (with_reducible assumption) | assumption)
                                have q293 : x17_2 < (l2.length : Int) := of_decide_eq_true (by first | (with_reducible assumption) | assumption)
                                obtain ⟨ad293, e293, hx293_0⟩ := Kd.at_int HR2.out x17_2 p293 q293
                                cases e293
                                replace hx293_0 := (HB.out.cell (World.block_lt_of_cell? w _ hx293_0)).trans hx293_0
                                replace p293 := eq_true p293
                                replace q293 := eq_true q293
                                have hnb71 := NB289_262.out
                                have hnc71 := NB262_289.out
                                have hcz72_0 : wc.cell? ⟨gb289, 0, none⟩ = some (.slice Ao60 t283.length co60) := (blk_cell BK289.out 0).trans rfl
                                have hcz72_1 : wc.cell? ⟨gb289, 1, none⟩ = some (.int .i64 t286) := (blk_cell BK289.out 1).trans rfl
                                have hfz72_0 := blk_frozen BK289.out 0
                                have hfz72_1 := blk_frozen BK289.out 1
                                go_wp2_with (first | ((with_reducible refine gate_callee (f := 10) rfl ?_); refine goesL_ (some 103) rfl rfl Try.func10 (by kernel_rfl) rfl #[.agg #[.slice Ao60 t283.length co60, .int .i64 t286], .int .i64 t287, .int .u64 (rd l2 x17_2)] rfl (by (try simp only [List.map_toArray, List.map_cons, List.map_nil]); first | done | rfl | (simp only [List.length_drop, List.length_take]; rfl)) ?_; (with_reducible refine (sched_Add.calls kj53 _ _ t283 t286 t287 (rd l2 x17_2) t294 t297 t298 _ ?side1 ?side2 A69.out).mono ?_); (case side1 => repeat (first | exact (Kd.R_reads' HO_290000.out).2.2 | (with_reducible refine Kd.C_alloc ?_ _) | (with_reducible refine Kd.C_drewN ?_ _) | (with_reducible refine Kd.C_drew ?_))); (case side2 => exact (Kd.R_reads' HO_290000.out).2.1); rintro e w73 ⟨v295, rfl, ho0, hb⟩; refine ⟨_, rfl, ?_⟩; have n0_ := Aside0.mk (Kd.R_below (by (with_reducible repeat (first | apply Kd.R_alloc | apply Kd.R_drewN | apply Kd.R_drew)); exact HO_11.out) hb); have n1_ := Aside0.mk (Kd.R_elder' (by (with_reducible repeat (first | apply Kd.R_alloc | apply Kd.R_drewN | apply Kd.R_drew)); exact HO_263000.out) (Kd.R_base ho0) hb); have n2_ := Aside0.mk (Kd.R_elder' (by (with_reducible repeat (first | apply Kd.R_alloc | apply Kd.R_drewN | apply Kd.R_drew)); exact HO_290000.out) (Kd.R_base ho0) hb); have n3_ := Aside0.mk (Kd.R_lower (Kd.R_new' (Kd.R_new' ho0 (Kd.R_lt (by (with_reducible repeat (first | apply Kd.R_alloc | apply Kd.R_drewN | apply Kd.R_drew)); exact HO_263000.out))) (Kd.R_lt (by (with_reducible repeat (first | apply Kd.R_alloc | apply Kd.R_drewN | apply Kd.R_drew)); exact HO_290000.out))) (below_size (by repeat (first | (with_reducible first | exact HB.out | apply below_alloc | apply pw_below_drewN | apply below_drew1 | refine below_set ?_ GE262.out | refine below_set ?_ GE289.out) | exact HB.out)))); have n4_ := Aside0.mk (blk_below (g := gb262) (o := .cells #[.slice Ao56 x263000_2.length co56, .int .i64 x263001_2] 26 (0, 0)) (by (with_reducible repeat (first | refine blk_drewN ?_ _ | refine blk_drew ?_ | refine blk_alloc ?_ _)); exact BK262.out) hb); have n5_ := Aside0.mk (blk_below (g := gb289) (o := .cells #[.slice Ao60 t283.length co60, .int .i64 t286] 26 (0, 0)) (by (with_reducible repeat (first | refine blk_drewN ?_ _ | refine blk_drew ?_ | refine blk_alloc ?_ _)); exact BK289.out) hb); have n6_ := Aside0.mk (below_step (by repeat (first | (with_reducible first | exact HB.out | apply below_alloc | apply pw_below_drewN | apply below_drew1 | refine below_set ?_ GE262.out | refine below_set ?_ GE289.out) | exact HB.out)) hb); clear HO_11; clear HO_263000; clear HO_290000; clear BK262; clear BK289; clear HB; have HO_11 := n0_; have HO_263000 := n1_; have HO_290000 := n2_; have HO296 := n3_; have BK262 := n4_; have BK289 := n5_; have HB := n6_; clear n0_ n1_ n2_ n3_ n4_ n5_ n6_; (try clear hb); (try clear hb2); (try clear hk); (try clear hi); (try clear ho0)) | ((with_reducible refine gate_dst (N := 22) rfl ?_); refine box_event ?hg (N := 22) ?hd (cs := #[.slice none 0 0, .int .i64 0]) (t := 26) ?hr ?_; (case hd => rfl); (case hg => rfl); (case hr => first | (go_simp; done) | (go_simp; rfl)); intro gb299 hg w74 hbox hb; have n0_ := Aside0.mk (Kd.R_below (by (with_reducible repeat (first | apply Kd.R_alloc | apply Kd.R_drewN | apply Kd.R_drew)); exact HO_11.out) hb); have n1_ := Aside0.mk (Kd.R_below (by (with_reducible repeat (first | apply Kd.R_alloc | apply Kd.R_drewN | apply Kd.R_drew)); exact HO_263000.out) hb); have n2_ := Aside0.mk (Kd.R_below (by (with_reducible repeat (first | apply Kd.R_alloc | apply Kd.R_drewN | apply Kd.R_drew)); exact HO_290000.out) hb); have n3_ := Aside0.mk (Kd.R_below (by (with_reducible repeat (first | apply Kd.R_alloc | apply Kd.R_drewN | apply Kd.R_drew)); exact HO296.out) hb); have n4_ := Aside0.mk (blk_below (g := gb262) (o := .cells #[.slice Ao56 x263000_2.length co56, .int .i64 x263001_2] 26 (0, 0)) (by (with_reducible repeat (first | refine blk_drewN ?_ _ | refine blk_drew ?_ | refine blk_alloc ?_ _)); exact BK262.out) hb); have n5_ := Aside0.mk (blk_below (g := gb289) (o := .cells #[.slice Ao60 t283.length co60, .int .i64 t286] 26 (0, 0)) (by (with_reducible repeat (first | refine blk_drewN ?_ _ | refine blk_drew ?_ | refine blk_alloc ?_ _)); exact BK289.out) hb); have n6_ := Aside0.mk (below_step (by repeat (first | (with_reducible first | exact HB.out | apply below_alloc | apply pw_below_drewN | apply below_drew1 | refine below_set ?_ GE262.out | refine below_set ?_ GE289.out) | exact HB.out)) hb); have n7_ := Aside0.mk (hbox); have n8_ := Aside0.mk ((by rw [hg]; exact (below_size (by repeat (first | (with_reducible first | exact HB.out | apply below_alloc | apply pw_below_drewN | apply below_drew1 | refine below_set ?_ GE262.out | refine below_set ?_ GE289.out) | exact HB.out))) : w.heap.size ≤ gb299)); have n9_ := Aside0.mk ((by rw [hg]; exact (below_size (by repeat (first | (with_reducible first | exact HB.out | apply below_alloc | apply pw_below_drewN | apply below_drew1 | refine below_set ?_ GE262.out | refine below_set ?_ GE289.out) | exact HB.out))) : w.heap.size ≤ gb299)); have n10_ := Aside0.mk ((by rw [hg]; exact Nat.ne_of_lt (blk_lt (g := gb262) (o := .cells #[.slice Ao56 x263000_2.length co56, .int .i64 x263001_2] 26 (0, 0)) (by (with_reducible repeat (first | refine blk_drewN ?_ _ | refine blk_drew ?_ | refine blk_alloc ?_ _)); exact BK262.out)) : gb262 ≠ gb299)); have n11_ := Aside0.mk ((by rw [hg]; exact Nat.ne_of_gt (blk_lt (g := gb262) (o := .cells #[.slice Ao56 x263000_2.length co56, .int .i64 x263001_2] 26 (0, 0)) (by (with_reducible repeat (first | refine blk_drewN ?_ _ | refine blk_drew ?_ | refine blk_alloc ?_ _)); exact BK262.out)) : gb299 ≠ gb262)); have n12_ := Aside0.mk ((by rw [hg]; exact Nat.ne_of_lt (blk_lt (g := gb289) (o := .cells #[.slice Ao60 t283.length co60, .int .i64 t286] 26 (0, 0)) (by (with_reducible repeat (first | refine blk_drewN ?_ _ | refine blk_drew ?_ | refine blk_alloc ?_ _)); exact BK289.out)) : gb289 ≠ gb299)); have n13_ := Aside0.mk ((by rw [hg]; exact Nat.ne_of_gt (blk_lt (g := gb289) (o := .cells #[.slice Ao60 t283.length co60, .int .i64 t286] 26 (0, 0)) (by (with_reducible repeat (first | refine blk_drewN ?_ _ | refine blk_drew ?_ | refine blk_alloc ?_ _)); exact BK289.out)) : gb299 ≠ gb289)); clear HO_11; clear HO_263000; clear HO_290000; clear HO296; clear BK262; clear BK289; clear HB; have HO_11 := n0_; have HO_263000 := n1_; have HO_290000 := n2_; have HO296 := n3_; have BK262 := n4_; have BK289 := n5_; have HB := n6_; have BK299 := n7_; have GW299 := n8_; have GE299 := n9_; have NB262_299 := n10_; have NB299_262 := n11_; have NB289_299 := n12_; have NB299_289 := n13_; clear n0_ n1_ n2_ n3_ n4_ n5_ n6_ n7_ n8_ n9_ n10_ n11_ n12_ n13_; clear hb hbox hg; obtain ⟨Ao75, co75, eo75⟩ := Kd.R_slice HO296.out; subst eo75; have hnb76 := NB299_262.out; have hnc76 := NB262_299.out; have hnb77 := NB299_289.out; have hnc77 := NB289_299.out; have hcz78_0 : w74.cell? ⟨gb299, 0, none⟩ = some (.slice none 0 0) := (blk_cell BK299.out 0).trans rfl; have hcz78_1 : w74.cell? ⟨gb299, 1, none⟩ = some (.int .i64 0) := (blk_cell BK299.out 1).trans rfl; have hfz78_0 := blk_frozen BK299.out 0; have hfz78_1 := blk_frozen BK299.out 1; have hcz79_0 : w74.cell? ⟨gb262, 0, none⟩ = some (.slice Ao56 x263000_2.length co56) := (blk_cell BK262.out 0).trans rfl; have hcz79_1 : w74.cell? ⟨gb262, 1, none⟩ = some (.int .i64 x263001_2) := (blk_cell BK262.out 1).trans rfl; have hfz79_0 := blk_frozen BK262.out 0; have hfz79_1 := blk_frozen BK262.out 1))
                                go_roundg kj53
                                case measure => have := HK1.out; have := HK2.out; have := HJ53.out; omega
                                case rel => exact ⟨(wrap64 (x17_2 + 1)), (t294), (t297), (.slice Ao75 t294.length co75), (by first | rfl | (simp; done) | (simp [*]; done)), H', ⟨by have := HK1.out; have := HK2.out; have := HJ53.out; omega⟩, ⟨by (with_reducible repeat (first | apply Kd.R_alloc | apply Kd.R_drewN | apply Kd.R_drew)); exact Kd.R_mono (Kd.R_far (p := ⟨gb262, 1, none⟩) (Kd.R_far (p := ⟨gb262, 0, none⟩) (Kd.R_far (p := ⟨gb299, 1, none⟩) (Kd.R_far (p := ⟨gb299, 0, none⟩) (Kd.R_types (Kd.R_types HO_11.out BK299.out (by decide)) BK262.out (by decide)) (fun _ hk => hk.1.2) (.slice Ao75 t294.length co75)) (fun _ hk => hk.1.2) (.int .i64 t297)) (fun _ hk => hk.2) (.slice Ao75 t294.length co75)) (fun _ hk => hk.2) (.int .i64 t297)) (fun _ hk => trivial)⟩, ⟨by (with_reducible repeat (first | apply Kd.R_alloc | apply Kd.R_drewN | apply Kd.R_drew)); exact Kd.R_mono (Kd.R_far (p := ⟨gb262, 1, none⟩) (Kd.R_far (p := ⟨gb262, 0, none⟩) (Kd.R_far (p := ⟨gb299, 1, none⟩) (Kd.R_far (p := ⟨gb299, 0, none⟩) (Kd.R_types (Kd.R_types HO296.out BK299.out (by decide)) BK262.out (by decide)) (fun _ hk => hk.1.2) (.slice Ao75 t294.length co75)) (fun _ hk => hk.1.2) (.int .i64 t297)) (fun _ hk => hk.2) (.slice Ao75 t294.length co75)) (fun _ hk => hk.2) (.int .i64 t297)) (fun _ hk => trivial)⟩, ⟨by (with_reducible repeat (first | refine blk_drewN ?_ _ | refine blk_drew ?_ | refine blk_alloc ?_ _)); refine blk_put (cs := #[.slice Ao75 t294.length co75, .int .i64 x263001_2]) ?_ 1 _ rfl; (with_reducible repeat (first | refine blk_drewN ?_ _ | refine blk_drew ?_ | refine blk_alloc ?_ _)); refine blk_put (cs := #[.slice Ao56 x263000_2.length co56, .int .i64 x263001_2]) ?_ 0 _ rfl; (with_reducible repeat (first | refine blk_drewN ?_ _ | refine blk_drew ?_ | refine blk_alloc ?_ _)); refine blk_far ?_ NB262_299.out _; (with_reducible repeat (first | refine blk_drewN ?_ _ | refine blk_drew ?_ | refine blk_alloc ?_ _)); refine blk_far ?_ NB262_299.out _; (with_reducible repeat (first | refine blk_drewN ?_ _ | refine blk_drew ?_ | refine blk_alloc ?_ _)); exact BK262.out⟩, ⟨by repeat (first | (with_reducible first | exact HB.out | apply below_alloc | apply pw_below_drewN | apply below_drew1 | refine below_set ?_ GE262.out | refine below_set ?_ GE289.out | refine below_set ?_ GE299.out) | exact HB.out)⟩⟩
                              · rw [if_neg c70] at H
                                have c70b0 : (t298 == 0) = false := beq_eq_false_iff_ne.mpr c70
                                have c70b1 : (t298 != 0) = true := bne_iff_ne.mpr c70
                                obtain rfl := Option.some.inj H
                                exact absurd hT_.out (by decide)
                            · rw [if_neg c68] at H
                              exact absurd H (by simp)
                          · rw [if_neg c67] at H
                            exact absurd H (by simp)
                        · replace c66 := Bool.eq_false_iff.mpr c66
                          subst c66
                          have H1 : ((sched_Add.f kj53 t283 t286 t287 t290).bind fun bt300 => (if bt300.2.2 = 0 then (heronrylaw21_SchedFair.l1 kj53 l2 t261 (wrap64 (1 + (Go.bits .and .i64 a1 15))) x11_1 t282 (wrap64 (x17_2 + 1)) bt300.1 bt300.2.1) else (some false))) = some r := by rw [if_neg (show ¬ (false = true) by decide)] at H; exact H
                          clear H
                          have H := H1
                          clear H1
                          replace H := Option.bind_eq_some_iff.mp H
                          obtain ⟨⟨t300, t303, t304⟩, A800, H⟩ := H
                          replace H : (if t304 = 0 then (heronrylaw21_SchedFair.l1 kj53 l2 t261 (wrap64 (1 + (Go.bits .and .i64 a1 15))) x11_1 t282 (wrap64 (x17_2 + 1)) t300 t303) else (some false)) = some r := H
                          have A80 := Aside0.mk A800
                          clear A800
                          by_cases c81 : t304 = 0
                          · rw [if_pos c81] at H
                            have c81b0 : (t304 == 0) = true := beq_iff_eq.mpr c81
                            have c81b1 : (t304 != 0) = false := bne_eq_false_iff_eq.mpr c81
                            clear c81
                            have H' := Aside0.mk H
                            clear H
                            have hnb82 := NB289_262.out
                            have hnc82 := NB262_289.out
                            have hcz83_0 : wc.cell? ⟨gb289, 0, none⟩ = some (.slice Ao60 t283.length co60) := (blk_cell BK289.out 0).trans rfl
                            have hcz83_1 : wc.cell? ⟨gb289, 1, none⟩ = some (.int .i64 t286) := (blk_cell BK289.out 1).trans rfl
                            have hfz83_0 := blk_frozen BK289.out 0
                            have hfz83_1 := blk_frozen BK289.out 1
                            go_wp2_with (first | ((with_reducible refine gate_callee (f := 10) rfl ?_); refine goesL_ (some 103) rfl rfl Try.func10 (by kernel_rfl) rfl #[.agg #[.slice Ao60 t283.length co60, .int .i64 t286], .int .i64 t287, .int .u64 t290] rfl (by (try simp only [List.map_toArray, List.map_cons, List.map_nil]); first | done | rfl | (simp only [List.length_drop, List.length_take]; rfl)) ?_; (with_reducible refine (sched_Add.calls kj53 _ _ t283 t286 t287 t290 t300 t303 t304 _ ?side1 ?side2 A80.out).mono ?_); (case side1 => repeat (first | exact (Kd.R_reads' HO_290000.out).2.2 | (with_reducible refine Kd.C_alloc ?_ _) | (with_reducible refine Kd.C_drewN ?_ _) | (with_reducible refine Kd.C_drew ?_))); (case side2 => exact (Kd.R_reads' HO_290000.out).2.1); rintro e w84 ⟨v301, rfl, ho0, hb⟩; refine ⟨_, rfl, ?_⟩; have n0_ := Aside0.mk (Kd.R_below (by (with_reducible repeat (first | apply Kd.R_alloc | apply Kd.R_drewN | apply Kd.R_drew)); exact HO_11.out) hb); have n1_ := Aside0.mk (Kd.R_elder' (by (with_reducible repeat (first | apply Kd.R_alloc | apply Kd.R_drewN | apply Kd.R_drew)); exact HO_263000.out) (Kd.R_base ho0) hb); have n2_ := Aside0.mk (Kd.R_elder' (by (with_reducible repeat (first | apply Kd.R_alloc | apply Kd.R_drewN | apply Kd.R_drew)); exact HO_290000.out) (Kd.R_base ho0) hb); have n3_ := Aside0.mk (Kd.R_lower (Kd.R_new' (Kd.R_new' ho0 (Kd.R_lt (by (with_reducible repeat (first | apply Kd.R_alloc | apply Kd.R_drewN | apply Kd.R_drew)); exact HO_263000.out))) (Kd.R_lt (by (with_reducible repeat (first | apply Kd.R_alloc | apply Kd.R_drewN | apply Kd.R_drew)); exact HO_290000.out))) (below_size (by repeat (first | (with_reducible first | exact HB.out | apply below_alloc | apply pw_below_drewN | apply below_drew1 | refine below_set ?_ GE262.out | refine below_set ?_ GE289.out) | exact HB.out)))); have n4_ := Aside0.mk (blk_below (g := gb262) (o := .cells #[.slice Ao56 x263000_2.length co56, .int .i64 x263001_2] 26 (0, 0)) (by (with_reducible repeat (first | refine blk_drewN ?_ _ | refine blk_drew ?_ | refine blk_alloc ?_ _)); exact BK262.out) hb); have n5_ := Aside0.mk (blk_below (g := gb289) (o := .cells #[.slice Ao60 t283.length co60, .int .i64 t286] 26 (0, 0)) (by (with_reducible repeat (first | refine blk_drewN ?_ _ | refine blk_drew ?_ | refine blk_alloc ?_ _)); exact BK289.out) hb); have n6_ := Aside0.mk (below_step (by repeat (first | (with_reducible first | exact HB.out | apply below_alloc | apply pw_below_drewN | apply below_drew1 | refine below_set ?_ GE262.out | refine below_set ?_ GE289.out) | exact HB.out)) hb); clear HO_11; clear HO_263000; clear HO_290000; clear BK262; clear BK289; clear HB; have HO_11 := n0_; have HO_263000 := n1_; have HO_290000 := n2_; have HO302 := n3_; have BK262 := n4_; have BK289 := n5_; have HB := n6_; clear n0_ n1_ n2_ n3_ n4_ n5_ n6_; (try clear hb); (try clear hb2); (try clear hk); (try clear hi); (try clear ho0)) | ((with_reducible refine gate_dst (N := 22) rfl ?_); refine box_event ?hg (N := 22) ?hd (cs := #[.slice none 0 0, .int .i64 0]) (t := 26) ?hr ?_; (case hd => rfl); (case hg => rfl); (case hr => first | (go_simp; done) | (go_simp; rfl)); intro gb305 hg w85 hbox hb; have n0_ := Aside0.mk (Kd.R_below (by (with_reducible repeat (first | apply Kd.R_alloc | apply Kd.R_drewN | apply Kd.R_drew)); exact HO_11.out) hb); have n1_ := Aside0.mk (Kd.R_below (by (with_reducible repeat (first | apply Kd.R_alloc | apply Kd.R_drewN | apply Kd.R_drew)); exact HO_263000.out) hb); have n2_ := Aside0.mk (Kd.R_below (by (with_reducible repeat (first | apply Kd.R_alloc | apply Kd.R_drewN | apply Kd.R_drew)); exact HO_290000.out) hb); have n3_ := Aside0.mk (Kd.R_below (by (with_reducible repeat (first | apply Kd.R_alloc | apply Kd.R_drewN | apply Kd.R_drew)); exact HO302.out) hb); have n4_ := Aside0.mk (blk_below (g := gb262) (o := .cells #[.slice Ao56 x263000_2.length co56, .int .i64 x263001_2] 26 (0, 0)) (by (with_reducible repeat (first | refine blk_drewN ?_ _ | refine blk_drew ?_ | refine blk_alloc ?_ _)); exact BK262.out) hb); have n5_ := Aside0.mk (blk_below (g := gb289) (o := .cells #[.slice Ao60 t283.length co60, .int .i64 t286] 26 (0, 0)) (by (with_reducible repeat (first | refine blk_drewN ?_ _ | refine blk_drew ?_ | refine blk_alloc ?_ _)); exact BK289.out) hb); have n6_ := Aside0.mk (below_step (by repeat (first | (with_reducible first | exact HB.out | apply below_alloc | apply pw_below_drewN | apply below_drew1 | refine below_set ?_ GE262.out | refine below_set ?_ GE289.out) | exact HB.out)) hb); have n7_ := Aside0.mk (hbox); have n8_ := Aside0.mk ((by rw [hg]; exact (below_size (by repeat (first | (with_reducible first | exact HB.out | apply below_alloc | apply pw_below_drewN | apply below_drew1 | refine below_set ?_ GE262.out | refine below_set ?_ GE289.out) | exact HB.out))) : w.heap.size ≤ gb305)); have n9_ := Aside0.mk ((by rw [hg]; exact (below_size (by repeat (first | (with_reducible first | exact HB.out | apply below_alloc | apply pw_below_drewN | apply below_drew1 | refine below_set ?_ GE262.out | refine below_set ?_ GE289.out) | exact HB.out))) : w.heap.size ≤ gb305)); have n10_ := Aside0.mk ((by rw [hg]; exact Nat.ne_of_lt (blk_lt (g := gb262) (o := .cells #[.slice Ao56 x263000_2.length co56, .int .i64 x263001_2] 26 (0, 0)) (by (with_reducible repeat (first | refine blk_drewN ?_ _ | refine blk_drew ?_ | refine blk_alloc ?_ _)); exact BK262.out)) : gb262 ≠ gb305)); have n11_ := Aside0.mk ((by rw [hg]; exact Nat.ne_of_gt (blk_lt (g := gb262) (o := .cells #[.slice Ao56 x263000_2.length co56, .int .i64 x263001_2] 26 (0, 0)) (by (with_reducible repeat (first | refine blk_drewN ?_ _ | refine blk_drew ?_ | refine blk_alloc ?_ _)); exact BK262.out)) : gb305 ≠ gb262)); have n12_ := Aside0.mk ((by rw [hg]; exact Nat.ne_of_lt (blk_lt (g := gb289) (o := .cells #[.slice Ao60 t283.length co60, .int .i64 t286] 26 (0, 0)) (by (with_reducible repeat (first | refine blk_drewN ?_ _ | refine blk_drew ?_ | refine blk_alloc ?_ _)); exact BK289.out)) : gb289 ≠ gb305)); have n13_ := Aside0.mk ((by rw [hg]; exact Nat.ne_of_gt (blk_lt (g := gb289) (o := .cells #[.slice Ao60 t283.length co60, .int .i64 t286] 26 (0, 0)) (by (with_reducible repeat (first | refine blk_drewN ?_ _ | refine blk_drew ?_ | refine blk_alloc ?_ _)); exact BK289.out)) : gb305 ≠ gb289)); clear HO_11; clear HO_263000; clear HO_290000; clear HO302; clear BK262; clear BK289; clear HB; have HO_11 := n0_; have HO_263000 := n1_; have HO_290000 := n2_; have HO302 := n3_; have BK262 := n4_; have BK289 := n5_; have HB := n6_; have BK305 := n7_; have GW305 := n8_; have GE305 := n9_; have NB262_305 := n10_; have NB305_262 := n11_; have NB289_305 := n12_; have NB305_289 := n13_; clear n0_ n1_ n2_ n3_ n4_ n5_ n6_ n7_ n8_ n9_ n10_ n11_ n12_ n13_; clear hb hbox hg; obtain ⟨Ao86, co86, eo86⟩ := Kd.R_slice HO302.out; subst eo86; have hnb87 := NB305_262.out; have hnc87 := NB262_305.out; have hnb88 := NB305_289.out; have hnc88 := NB289_305.out; have hcz89_0 : w85.cell? ⟨gb305, 0, none⟩ = some (.slice none 0 0) := (blk_cell BK305.out 0).trans rfl; have hcz89_1 : w85.cell? ⟨gb305, 1, none⟩ = some (.int .i64 0) := (blk_cell BK305.out 1).trans rfl; have hfz89_0 := blk_frozen BK305.out 0; have hfz89_1 := blk_frozen BK305.out 1; have hcz90_0 : w85.cell? ⟨gb262, 0, none⟩ = some (.slice Ao56 x263000_2.length co56) := (blk_cell BK262.out 0).trans rfl; have hcz90_1 : w85.cell? ⟨gb262, 1, none⟩ = some (.int .i64 x263001_2) := (blk_cell BK262.out 1).trans rfl; have hfz90_0 := blk_frozen BK262.out 0; have hfz90_1 := blk_frozen BK262.out 1))
                            go_roundg kj53
                            case measure => have := HK1.out; have := HK2.out; have := HJ53.out; omega
                            case rel => exact ⟨(wrap64 (x17_2 + 1)), (t300), (t303), (.slice Ao86 t300.length co86), (by first | rfl | (simp; done) | (simp [*]; done)), H', ⟨by have := HK1.out; have := HK2.out; have := HJ53.out; omega⟩, ⟨by (with_reducible repeat (first | apply Kd.R_alloc | apply Kd.R_drewN | apply Kd.R_drew)); exact Kd.R_mono (Kd.R_far (p := ⟨gb262, 1, none⟩) (Kd.R_far (p := ⟨gb262, 0, none⟩) (Kd.R_far (p := ⟨gb305, 1, none⟩) (Kd.R_far (p := ⟨gb305, 0, none⟩) (Kd.R_types (Kd.R_types HO_11.out BK305.out (by decide)) BK262.out (by decide)) (fun _ hk => hk.1.2) (.slice Ao86 t300.length co86)) (fun _ hk => hk.1.2) (.int .i64 t303)) (fun _ hk => hk.2) (.slice Ao86 t300.length co86)) (fun _ hk => hk.2) (.int .i64 t303)) (fun _ hk => trivial)⟩, ⟨by (with_reducible repeat (first | apply Kd.R_alloc | apply Kd.R_drewN | apply Kd.R_drew)); exact Kd.R_mono (Kd.R_far (p := ⟨gb262, 1, none⟩) (Kd.R_far (p := ⟨gb262, 0, none⟩) (Kd.R_far (p := ⟨gb305, 1, none⟩) (Kd.R_far (p := ⟨gb305, 0, none⟩) (Kd.R_types (Kd.R_types HO302.out BK305.out (by decide)) BK262.out (by decide)) (fun _ hk => hk.1.2) (.slice Ao86 t300.length co86)) (fun _ hk => hk.1.2) (.int .i64 t303)) (fun _ hk => hk.2) (.slice Ao86 t300.length co86)) (fun _ hk => hk.2) (.int .i64 t303)) (fun _ hk => trivial)⟩, ⟨by (with_reducible repeat (first | refine blk_drewN ?_ _ | refine blk_drew ?_ | refine blk_alloc ?_ _)); refine blk_put (cs := #[.slice Ao86 t300.length co86, .int .i64 x263001_2]) ?_ 1 _ rfl; (with_reducible repeat (first | refine blk_drewN ?_ _ | refine blk_drew ?_ | refine blk_alloc ?_ _)); refine blk_put (cs := #[.slice Ao56 x263000_2.length co56, .int .i64 x263001_2]) ?_ 0 _ rfl; (with_reducible repeat (first | refine blk_drewN ?_ _ | refine blk_drew ?_ | refine blk_alloc ?_ _)); refine blk_far ?_ NB262_305.out _; (with_reducible repeat (first | refine blk_drewN ?_ _ | refine blk_drew ?_ | refine blk_alloc ?_ _)); refine blk_far ?_ NB262_305.out _; (with_reducible repeat (first | refine blk_drewN ?_ _ | refine blk_drew ?_ | refine blk_alloc ?_ _)); exact BK262.out⟩, ⟨by repeat (first | (with_reducible first | exact HB.out | apply below_alloc | apply pw_below_drewN | apply below_drew1 | refine below_set ?_ GE262.out | refine below_set ?_ GE289.out | refine below_set ?_ GE305.out) | exact HB.out)⟩⟩
                          · rw [if_neg c81] at H
                            have c81b0 : (t304 == 0) = false := beq_eq_false_iff_ne.mpr c81
                            have c81b1 : (t304 != 0) = true := bne_iff_ne.mpr c81
                            obtain rfl := Option.some.inj H
                            exact absurd hT_.out (by decide)
                · rw [if_neg c43] at H
                  have c43b0 : (t288 == 0) = false := beq_eq_false_iff_ne.mpr c43
                  have c43b1 : (t288 != 0) = true := bne_iff_ne.mpr c43
                  obtain rfl := Option.some.inj H
                  exact absurd hT_.out (by decide)
              · rw [if_neg c41] at H
                have c41b0 : decide (x17_2 < t282) = false := decide_eq_false c41
                clear c41
                obtain rfl := Option.some.inj H
                exact absurd hT_.out (by decide)

/-- THE ONE PURE STATEMENT of heronrylaw21_SchedFair: yours. -/
def heronrylaw21_SchedFair.Pure : Prop := ∀ (a0 : Int) (a1 : Int) (l2 : List Int), (Lit.int .i64 a0).wf = true → (Lit.int .i64 a1).wf = true → l2.length ≤ maxLen → l2.length * 8 ≤ 140737488351232 → (∀ x ∈ l2, (Lit.int .u64 x).wf = true) → ∃ k, heronrylaw21_SchedFair.f k a0 a1 l2 = some true
theorem heronrylaw21_SchedFair.walk (P : heronrylaw21_SchedFair.Pure) (a0 : Int) (a1 : Int) (a2 : Option Addr) (len2 cap2 : Nat) (z2 : List Int) (w : World) (w0 : (Lit.int .i64 a0).wf = true) (w1 : (Lit.int .i64 a1).wf = true) (w2 : (a2 = none ∧ len2 = 0 ∧ cap2 = 0 ∧ z2 = []) ∨ ∃ x, a2 = some x ∧ len2 ≤ cap2 ∧ cap2 ≤ maxLen ∧ z2.length = cap2 ∧ (∀ i, i < z2.length → w.cell? (x.add i) = some (.int .u64 (z2.getD i 0))) ∧ ∀ n ∈ z2, (Lit.int .u64 n).wf = true) (y2 : len2 * 8 ≤ 140737488351232) :
    Calls Try.prog 5 #[.int .i64 a0, .int .i64 a1, .slice a2 len2 cap2] w fun e w' => e = .returned (.bool true) ∧ Below w.heap.size w w' := by
  obtain ⟨l2, rfl, hr2, hm2, hw2, hc2⟩ := ReadsInt.ofRowC w2
  obtain ⟨k, h⟩ := P a0 a1 l2 w0 w1 hm2 y2 hw2
  refine (heronrylaw21_SchedFair.calls k a0 a1 _ _ l2 true w ⟨rfl⟩ (Kd.C_of_reads (d := (0 : Int)) (h1 := fun _ => rfl) hr2) hc2 h).mono ?_
  rintro e w' ⟨rfl, hd⟩
  exact ⟨rfl, hd⟩

end Go.Proofs.Ytjbdlgjhnldfbaa.Q
