-- Written by hprint.py (the kit's printer, with functions that are given). Lean checks it.
import Derived.Test.YtjbdlgjhnldfbaaQ0
import Derived.Test.YtjbdlgjhnldfbaaQ3
import Derived.Test.YtjbdlgjhnldfbaaQ5
import Derived.Test.YtjbdlgjhnldfbaaQ7
import Derived.Test.YtjbdlgjhnldfbaaQ17
import Derived.Test.YtjbdlgjhnldfbaaFH
namespace Go.Proofs.Ytjbdlgjhnldfbaa.Q
open Go.RowKit Go.Proofs.YtjbdlgjhnldfbaaW.PrintWords Go.Proofs.YtjbdlgjhnldfbaaW.PrintLast Go.Proofs.YtjbdlgjhnldfbaaW.PrintMore
attribute [local go_sem] max2_int min2_int max_two min_two max_three min_three max_four min_four   -- for this text's walks alone
set_option linter.unusedVariables false
set_option linter.unusedSimpArgs false

/-! ### heronrylaw21_SchedDrops: function 6 -/
mutual
def heronrylaw21_SchedDrops.j0 : Nat → List Int → Int → Bool → Bool → Option (Bool)
  | 0, _, _, _, _ => none
  | k + 1, x0, x1, x5, x33 => if x33 = true then (some x5) else (if (x0.length : Int) = 0 then (none) else (heronrylaw21_SchedDrops.l0 k x0 x5 (Int.tmod (Go.bits .and .i64 x1 65535) (x0.length : Int)) ([] : List Int) 0 ([] : List (S44)) 1000 ([] : List (S44)) 1000))
def heronrylaw21_SchedDrops.l0 : Nat → List Int → Bool → Int → List Int → Int → List (S44) → Int → List (S44) → Int → Option (Bool)
  | 0, _, _, _, _, _, _, _, _, _ => none
  | k + 1, x0, x5, x6, x9, x10, x316000, x316001, x317000, x317001 => if x10 < (x0.length : Int) then (if 0 ≤ x10 then ((float_Class.f (rd x0 x10)).bind fun t318 => (if t318 = 4 then (some x5) else ((sched_Add.f k x316000 x316001 x10 (rd x0 x10)).bind fun bt320 => (if bt320.2.2 = 0 then (if x9.length < 17592186044416 then ((some (x9 ++ [x10] : List Int)).bind fun y326 => (if x10 = x6 then (heronrylaw21_SchedDrops.l0 k x0 x5 x6 y326 (wrap64 (x10 + 1)) bt320.1 bt320.2.1 x317000 x317001) else ((sched_Add.f k x317000 x317001 x10 (rd x0 x10)).bind fun bt330 => (if bt330.2.2 = 0 then (heronrylaw21_SchedDrops.l0 k x0 x5 x6 y326 (wrap64 (x10 + 1)) bt320.1 bt320.2.1 bt330.1 bt330.2.1) else (some false))))) else (none)) else (some false))))) else (none)) else ((sched_Drop.f k x316000 x316001 x6).bind fun bt336 => ((sched_Drop.f k bt336.1 bt336.2.1 x6).bind fun bt341 => (heronrylaw21_SchedDrops.l1 k x0 x5 x6 x9 bt336.2.2 bt341.2.2 1 bt336.1 bt336.2.1 x317000 x317001)))
def heronrylaw21_SchedDrops.l1 : Nat → List Int → Bool → Int → List Int → Int → Int → Int → List (S44) → Int → List (S44) → Int → Option (Bool)
  | 0, _, _, _, _, _, _, _, _, _, _, _ => none
  | k + 1, x0, x5, x6, x9, x15, x17, x18, x316000, x316001, x317000, x317001 => if x18 < (x0.length : Int) then ((sched_Pick.f k x316000 x316001 x9).bind fun bt347 => ((sched_Pick.f k x317000 x317001 x9).bind fun bt354 => (if bt347.2.2.2 = 0 then (if bt354.2.2.2 = 0 then (if bt347.2.2.1 = bt354.2.2.1 then (if bt347.2.2.1 = x6 then (some false) else (heronrylaw21_SchedDrops.l1 k x0 x5 x6 x9 x15 x17 (wrap64 (x18 + 1)) bt347.1 bt347.2.1 bt354.1 bt354.2.1)) else (some false)) else (some false)) else (some false)))) else (if x5 = true then (if x15 = 0 then (if x17 = 6 then (some ((x316000.length : Int) == 0)) else (some false)) else (some false)) else (some false))
end
def heronrylaw21_SchedDrops.f (k : Nat) (l0 : List Int) (a1 : Int) : Option (Bool) := (heronrylaw21_awake.f k).bind fun t314 => (if (l0.length : Int) > 16 then (heronrylaw21_SchedDrops.j0 k l0 a1 t314 true) else (heronrylaw21_SchedDrops.j0 k l0 a1 t314 ((l0.length : Int) == 0)))
theorem heronrylaw21_SchedDrops.mono_l : ∀ k, (∀ y0 y1 y2 y3, LeO (heronrylaw21_SchedDrops.j0 k y0 y1 y2 y3) (heronrylaw21_SchedDrops.j0 (k + 1) y0 y1 y2 y3)) ∧ (∀ y0 y1 y2 y3 y4 y5 y6 y7 y8, LeO (heronrylaw21_SchedDrops.l0 k y0 y1 y2 y3 y4 y5 y6 y7 y8) (heronrylaw21_SchedDrops.l0 (k + 1) y0 y1 y2 y3 y4 y5 y6 y7 y8)) ∧ (∀ y0 y1 y2 y3 y4 y5 y6 y7 y8 y9 y10, LeO (heronrylaw21_SchedDrops.l1 k y0 y1 y2 y3 y4 y5 y6 y7 y8 y9 y10) (heronrylaw21_SchedDrops.l1 (k + 1) y0 y1 y2 y3 y4 y5 y6 y7 y8 y9 y10))
  | 0 => ⟨fun _ _ _ _ r h => by simp [heronrylaw21_SchedDrops.j0] at h, fun _ _ _ _ _ _ _ _ _ r h => by simp [heronrylaw21_SchedDrops.l0] at h, fun _ _ _ _ _ _ _ _ _ _ _ r h => by simp [heronrylaw21_SchedDrops.l1] at h⟩
  | k + 1 => by
    obtain ⟨ih0, ih1, ih2⟩ := heronrylaw21_SchedDrops.mono_l k
    refine ⟨?_, ?_, ?_⟩
    · intro y0 y1 y2 y3
      unfold heronrylaw21_SchedDrops.j0
      repeat' first
      | (with_reducible exact ih0 _ _ _ _)
      | (with_reducible exact ih1 _ _ _ _ _ _ _ _ _)
      | (with_reducible exact ih2 _ _ _ _ _ _ _ _ _ _ _)
      | (with_reducible exact heronrylaw21_awake.mono _)
      | (with_reducible exact sched_Add.mono _ _ _ _ _)
      | (with_reducible exact sched_Drop.mono _ _ _ _)
      | (with_reducible exact sched_Pick.mono _ _ _ _)
      | (with_reducible exact LeO.refl _)
      | (with_reducible exact LeO.none _)
      | (with_reducible refine LeO.ite ?_ ?_)
      | (with_reducible refine LeO.bind ?_ (fun _ => ?_))
      | exact ih0 _ _ _ _
      | exact ih1 _ _ _ _ _ _ _ _ _
      | exact ih2 _ _ _ _ _ _ _ _ _ _ _
      | exact heronrylaw21_awake.mono _
      | exact sched_Add.mono _ _ _ _ _
      | exact sched_Drop.mono _ _ _ _
      | exact sched_Pick.mono _ _ _ _
      | exact LeO.none _
      | refine LeO.ite ?_ ?_
      | refine LeO.bind ?_ (fun _ => ?_)
    · intro y0 y1 y2 y3 y4 y5 y6 y7 y8
      unfold heronrylaw21_SchedDrops.l0
      repeat' first
      | (with_reducible exact ih0 _ _ _ _)
      | (with_reducible exact ih1 _ _ _ _ _ _ _ _ _)
      | (with_reducible exact ih2 _ _ _ _ _ _ _ _ _ _ _)
      | (with_reducible exact heronrylaw21_awake.mono _)
      | (with_reducible exact sched_Add.mono _ _ _ _ _)
      | (with_reducible exact sched_Drop.mono _ _ _ _)
      | (with_reducible exact sched_Pick.mono _ _ _ _)
      | (with_reducible exact LeO.refl _)
      | (with_reducible exact LeO.none _)
      | (with_reducible refine LeO.ite ?_ ?_)
      | (with_reducible refine LeO.bind ?_ (fun _ => ?_))
      | exact ih0 _ _ _ _
      | exact ih1 _ _ _ _ _ _ _ _ _
      | exact ih2 _ _ _ _ _ _ _ _ _ _ _
      | exact heronrylaw21_awake.mono _
      | exact sched_Add.mono _ _ _ _ _
      | exact sched_Drop.mono _ _ _ _
      | exact sched_Pick.mono _ _ _ _
      | exact LeO.none _
      | refine LeO.ite ?_ ?_
      | refine LeO.bind ?_ (fun _ => ?_)
    · intro y0 y1 y2 y3 y4 y5 y6 y7 y8 y9 y10
      unfold heronrylaw21_SchedDrops.l1
      repeat' first
      | (with_reducible exact ih0 _ _ _ _)
      | (with_reducible exact ih1 _ _ _ _ _ _ _ _ _)
      | (with_reducible exact ih2 _ _ _ _ _ _ _ _ _ _ _)
      | (with_reducible exact heronrylaw21_awake.mono _)
      | (with_reducible exact sched_Add.mono _ _ _ _ _)
      | (with_reducible exact sched_Drop.mono _ _ _ _)
      | (with_reducible exact sched_Pick.mono _ _ _ _)
      | (with_reducible exact LeO.refl _)
      | (with_reducible exact LeO.none _)
      | (with_reducible refine LeO.ite ?_ ?_)
      | (with_reducible refine LeO.bind ?_ (fun _ => ?_))
      | exact ih0 _ _ _ _
      | exact ih1 _ _ _ _ _ _ _ _ _
      | exact ih2 _ _ _ _ _ _ _ _ _ _ _
      | exact heronrylaw21_awake.mono _
      | exact sched_Add.mono _ _ _ _ _
      | exact sched_Drop.mono _ _ _ _
      | exact sched_Pick.mono _ _ _ _
      | exact LeO.none _
      | refine LeO.ite ?_ ?_
      | refine LeO.bind ?_ (fun _ => ?_)
theorem heronrylaw21_SchedDrops.mono : ∀ a0 a1 k, LeO (heronrylaw21_SchedDrops.f k a0 a1) (heronrylaw21_SchedDrops.f (k + 1) a0 a1) := by
  intro a0 a1 k
  obtain ⟨ih0, ih1, ih2⟩ := heronrylaw21_SchedDrops.mono_l k
  unfold heronrylaw21_SchedDrops.f
  repeat' first
      | (with_reducible exact ih0 _ _ _ _)
      | (with_reducible exact ih1 _ _ _ _ _ _ _ _ _)
      | (with_reducible exact ih2 _ _ _ _ _ _ _ _ _ _ _)
      | (with_reducible exact heronrylaw21_awake.mono _)
      | (with_reducible exact sched_Add.mono _ _ _ _ _)
      | (with_reducible exact sched_Drop.mono _ _ _ _)
      | (with_reducible exact sched_Pick.mono _ _ _ _)
      | (with_reducible exact LeO.refl _)
      | (with_reducible exact LeO.none _)
      | (with_reducible refine LeO.ite ?_ ?_)
      | (with_reducible refine LeO.bind ?_ (fun _ => ?_))
      | exact ih0 _ _ _ _
      | exact ih1 _ _ _ _ _ _ _ _ _
      | exact ih2 _ _ _ _ _ _ _ _ _ _ _
      | exact heronrylaw21_awake.mono _
      | exact sched_Add.mono _ _ _ _ _
      | exact sched_Drop.mono _ _ _ _
      | exact sched_Pick.mono _ _ _ _
      | exact LeO.none _
      | refine LeO.ite ?_ ?_
      | refine LeO.bind ?_ (fun _ => ?_)
def heronrylaw21_SchedDrops.T13 : Bool × List (List Nat × List Nat) := (true, [([], []), ([], []), ([], []), ([], []), ([2, 3], [2, 3]), ([4], [4]), ([0, 1, 5], [0, 1, 5]), ([6], [6]), ([7], [7]), ([7], [7]), ([], []), ([10, 8, 6, 0, 1, 2, 3, 4, 5, 6, 7, 8, 10], [8, 10]), ([9, 11, 0, 1, 2, 3, 4, 5, 6, 7, 8, 9, 10, 11], [9])])
def heronrylaw21_SchedDrops.B13 : List Nat := [0, 0, 0, 0, 12, 28, 63, 127, 255, 255, 0, 1535, 4095]
theorem heronrylaw21_SchedDrops.tab13 : rtab .any (opsOf Try.f6 13) = heronrylaw21_SchedDrops.T13 := by kernel_rfl
theorem heronrylaw21_SchedDrops.bits13 : waitsOk heronrylaw21_SchedDrops.T13.2 heronrylaw21_SchedDrops.B13 = true := by kernel_rfl
def heronrylaw21_SchedDrops.T19 : Bool × List (List Nat × List Nat) := (true, [([], []), ([], []), ([], []), ([], []), ([2, 3], [2, 3]), ([4], [4]), ([0, 1, 5], [0, 1, 5]), ([6], [6]), ([7], [7]), ([7], [7]), ([], []), ([10, 8, 6, 0, 1, 2, 3, 4, 5, 6, 7, 8, 10], [8, 10]), ([9, 11, 0, 1, 2, 3, 4, 5, 6, 7, 8, 9, 10, 11], [9])])
def heronrylaw21_SchedDrops.B19 : List Nat := [0, 0, 0, 0, 12, 28, 63, 127, 255, 255, 0, 1535, 4095]
theorem heronrylaw21_SchedDrops.tab19 : rtab .any (opsOf Try.f6 19) = heronrylaw21_SchedDrops.T19 := by kernel_rfl
theorem heronrylaw21_SchedDrops.bits19 : waitsOk heronrylaw21_SchedDrops.T19.2 heronrylaw21_SchedDrops.B19 = true := by kernel_rfl
set_option maxHeartbeats 8000000 in
set_option maxRecDepth 100000 in
theorem heronrylaw21_SchedDrops.calls (k : Nat) (A0 : Option Addr) (c0 : Nat) (l0 : List Int) (a1 : Int) (r : Bool) (w : World) (hT_ : Aside0 (r = true)) (hr0 : Kd.C (Kd.int .u64) w A0 l0.length l0) (hc0 : l0.length ≤ c0) (h : heronrylaw21_SchedDrops.f k l0 a1 = some r) :
    Calls Try.prog 6 #[.slice A0 l0.length c0, .int .i64 a1] w fun e w' => e = .returned (.bool r) ∧ Below w.heap.size w w' := by
  have hu26 := Try.underlying26
  have HR0 := Aside0.mk hr0
  have HC0 := Aside0.mk hc0
  clear hr0 hc0
  have HB := Aside0.mk (Below.refl w.heap.size w)
  have H : ((heronrylaw21_awake.f k).bind fun t314 => (if (l0.length : Int) > 16 then (heronrylaw21_SchedDrops.j0 k l0 a1 t314 true) else (heronrylaw21_SchedDrops.j0 k l0 a1 t314 ((l0.length : Int) == 0)))) = some r := h
  clear h
  replace H := Option.bind_eq_some_iff.mp H
  obtain ⟨t314, A30, H⟩ := H
  replace H : (if (l0.length : Int) > 16 then (heronrylaw21_SchedDrops.j0 k l0 a1 t314 true) else (heronrylaw21_SchedDrops.j0 k l0 a1 t314 ((l0.length : Int) == 0))) = some r := H
  have A3 := Aside0.mk A30
  clear A30
  have HC4 := Aside0.mk H
  clear H
  go_enter Try.func6, Try.ntmps6
  go_upto_region 2 with (first | ((with_reducible refine gate_callee (f := 8) rfl ?_); refine goesL_ (some 25) rfl rfl Try.func8 (by kernel_rfl) rfl #[] rfl (by (try simp only [List.map_toArray, List.map_cons, List.map_nil]); first | done | rfl | (simp only [List.length_drop, List.length_take]; rfl)) ?_; (with_reducible refine (heronrylaw21_awake.calls k  t314 _ A3.out).mono ?_); rintro e w5 ⟨rfl, hb⟩; refine ⟨_, rfl, ?_⟩; have n0_ := Aside0.mk (below_step (by repeat (first | (with_reducible first | exact HB.out | apply below_alloc | apply pw_below_drewN | apply below_drew1) | exact HB.out)) hb); clear HB; have HB := n0_; clear n0_; (try clear hb); (try clear hb2); (try clear hk); (try clear hi)))
  (try simp only [Act.put, List.setIfInBounds_toArray, List.set_cons_zero, List.set_cons_succ])
  go_cut [33] (fun v33 wc => ∃ (kq : Nat) (x33_3 : Bool), v33 = .bool x33_3 ∧ Aside0 (heronrylaw21_SchedDrops.j0 kq l0 a1 t314 x33_3 = some r) ∧ Aside0 (kq ≤ k) ∧ Aside0 (Below w.heap.size w wc))
  case first =>
    have H := HC4.out
    clear HC4
    by_cases c6 : (l0.length : Int) > 16
    · rw [if_pos c6] at H
      have c6b0 : decide (16 < (l0.length : Int)) = true := decide_eq_true c6
      have c6b1 : decide (16 < l0.length) = true := decide_eq_true (by omega)
      clear c6
      (first | rw [c6b0] | (simp only [i64_w, i32_w]; rw [c6b0]) | skip)
      have H' := Aside0.mk H
      clear H
      go_wp2
      go_meet
      case rel => exact ⟨_, (true), (by first | rfl | (simp; done) | (simp [*]; done)), H', ⟨by first | omega | exact Nat.le_refl _⟩, ⟨by repeat (first | (with_reducible first | exact HB.out | apply below_alloc | apply pw_below_drewN | apply below_drew1) | exact HB.out)⟩⟩
    · rw [if_neg c6] at H
      have c6b0 : decide (16 < (l0.length : Int)) = false := decide_eq_false c6
      have c6b1 : decide (16 < l0.length) = false := decide_eq_false (by omega)
      clear c6
      (first | rw [c6b0] | (simp only [i64_w, i32_w]; rw [c6b0]) | skip)
      have H' := Aside0.mk H
      clear H
      go_wp2
      go_meet
      case rel => exact ⟨_, (((l0.length : Int) == 0)), (by first | rfl | (simp; done) | (simp [*]; done)), H', ⟨by first | omega | exact Nat.le_refl _⟩, ⟨by repeat (first | (with_reducible first | exact HB.out | apply below_alloc | apply pw_below_drewN | apply below_drew1) | exact HB.out)⟩⟩
  case rest =>
    clear HC4
    try clear p2
    try clear c6
    try clear c6b0
    try clear c6b1
    obtain ⟨kq, x33_3, rfl, HA, HJ3, HB⟩ := hcut
    cases kq with
    | zero => exact absurd HA.out (by simp [heronrylaw21_SchedDrops.j0])
    | succ kj3 =>
      have H := HA.out
      clear HA
      simp only [heronrylaw21_SchedDrops.j0] at H
      by_cases c7 : x33_3 = true
      · subst c7
        have H1 : (some t314) = some r := by rw [if_pos rfl] at H; exact H
        clear H
        have H := H1
        clear H1
        obtain rfl := Option.some.inj H
        go_wp2
        go_ret
        exact ⟨by first | rfl | (simp [errW_none, errW_some] <;> rfl) | (simp [*, errW_none, errW_some] <;> rfl), by repeat (first | (with_reducible first | exact HB.out | apply below_alloc | apply pw_below_drewN | apply below_drew1) | exact HB.out)⟩
      · replace c7 := Bool.eq_false_iff.mpr c7
        subst c7
        have H1 : (if (l0.length : Int) = 0 then (none) else (heronrylaw21_SchedDrops.l0 kj3 l0 t314 (Int.tmod (Go.bits .and .i64 a1 65535) (l0.length : Int)) ([] : List Int) 0 ([] : List (S44)) 1000 ([] : List (S44)) 1000)) = some r := by rw [if_neg (show ¬ (false = true) by decide)] at H; exact H
        clear H
        have H := H1
        clear H1
        by_cases c8 : (l0.length : Int) = 0
        · rw [if_pos c8] at H
          exact absurd H (by simp)
        · rw [if_neg c8] at H
          have c8b0 : ((l0.length : Int) == 0) = false := beq_eq_false_iff_ne.mpr c8
          have c8b1 : ((l0.length : Int) != 0) = true := bne_iff_ne.mpr c8
          have c8b2 : ¬ (l0 = []) := fun h_ => c8 (by rw [h_]; rfl)
          have H' := Aside0.mk H
          clear H
          go_wp2_with (first | ((with_reducible refine gate_dst (N := 7) rfl ?_); (try (refine gate_guard (by rfl) ?_; dsimp only)); refine box_event ?hg (N := 7) ?hd (cs := #[.slice none 0 0, .int .i64 0]) (t := 26) ?hr ?_; (case hd => rfl); (case hg => rfl); (case hr => first | (go_simp; done) | (go_simp; rfl)); intro gb315 hg w9 hbox hb; have n0_ := Aside0.mk (below_step (by repeat (first | (with_reducible first | exact HB.out | apply below_alloc | apply pw_below_drewN | apply below_drew1) | exact HB.out)) hb); have n1_ := Aside0.mk (hbox); have n2_ := Aside0.mk ((by rw [hg]; exact (below_size (by repeat (first | (with_reducible first | exact HB.out | apply below_alloc | apply pw_below_drewN | apply below_drew1) | exact HB.out))) : w.heap.size ≤ gb315)); have n3_ := Aside0.mk ((by rw [hg]; exact (below_size (by repeat (first | (with_reducible first | exact HB.out | apply below_alloc | apply pw_below_drewN | apply below_drew1) | exact HB.out))) : w.heap.size ≤ gb315)); clear HB; have HB := n0_; have BK315 := n1_; have GW315 := n2_; have GE315 := n3_; clear n0_ n1_ n2_ n3_; clear hb hbox hg; have hcz10_0 : w9.cell? ⟨gb315, 0, none⟩ = some (.slice none 0 0) := (blk_cell BK315.out 0).trans rfl; have hcz10_1 : w9.cell? ⟨gb315, 1, none⟩ = some (.int .i64 0) := (blk_cell BK315.out 1).trans rfl; have hfz10_0 := blk_frozen BK315.out 0; have hfz10_1 := blk_frozen BK315.out 1) | ((with_reducible refine gate_dst (N := 8) rfl ?_); (try (refine gate_guard (by rfl) ?_; dsimp only)); refine box_event ?hg (N := 8) ?hd (cs := #[.slice none 0 0, .int .i64 0]) (t := 26) ?hr ?_; (case hd => rfl); (case hg => rfl); (case hr => first | (go_simp; done) | (go_simp; rfl)); intro gb316 hg w11 hbox hb; have n0_ := Aside0.mk (blk_below (g := gb315) (o := .cells #[.slice none 0 0, .int .i64 1000] 26 (0, 0)) (by (with_reducible repeat (first | refine blk_drewN ?_ _ | refine blk_drew ?_ | refine blk_alloc ?_ _)); refine blk_put (cs := #[.slice none 0 0, .int .i64 0]) ?_ 1 _ rfl; (with_reducible repeat (first | refine blk_drewN ?_ _ | refine blk_drew ?_ | refine blk_alloc ?_ _)); refine blk_put (cs := #[.slice none 0 0, .int .i64 0]) ?_ 0 _ rfl; (with_reducible repeat (first | refine blk_drewN ?_ _ | refine blk_drew ?_ | refine blk_alloc ?_ _)); exact BK315.out) hb); have n1_ := Aside0.mk (below_step (by repeat (first | (with_reducible first | exact HB.out | apply below_alloc | apply pw_below_drewN | apply below_drew1 | refine below_set ?_ GE315.out) | exact HB.out)) hb); have n2_ := Aside0.mk (hbox); have n3_ := Aside0.mk ((by rw [hg]; exact (below_size (by repeat (first | (with_reducible first | exact HB.out | apply below_alloc | apply pw_below_drewN | apply below_drew1 | refine below_set ?_ GE315.out) | exact HB.out))) : w.heap.size ≤ gb316)); have n4_ := Aside0.mk ((by rw [hg]; exact (below_size (by repeat (first | (with_reducible first | exact HB.out | apply below_alloc | apply pw_below_drewN | apply below_drew1 | refine below_set ?_ GE315.out) | exact HB.out))) : w.heap.size ≤ gb316)); have n5_ := Aside0.mk ((by rw [hg]; exact Nat.ne_of_lt (blk_lt (g := gb315) (o := .cells #[.slice none 0 0, .int .i64 1000] 26 (0, 0)) (by (with_reducible repeat (first | refine blk_drewN ?_ _ | refine blk_drew ?_ | refine blk_alloc ?_ _)); refine blk_put (cs := #[.slice none 0 0, .int .i64 0]) ?_ 1 _ rfl; (with_reducible repeat (first | refine blk_drewN ?_ _ | refine blk_drew ?_ | refine blk_alloc ?_ _)); refine blk_put (cs := #[.slice none 0 0, .int .i64 0]) ?_ 0 _ rfl; (with_reducible repeat (first | refine blk_drewN ?_ _ | refine blk_drew ?_ | refine blk_alloc ?_ _)); exact BK315.out)) : gb315 ≠ gb316)); have n6_ := Aside0.mk ((by rw [hg]; exact Nat.ne_of_gt (blk_lt (g := gb315) (o := .cells #[.slice none 0 0, .int .i64 1000] 26 (0, 0)) (by (with_reducible repeat (first | refine blk_drewN ?_ _ | refine blk_drew ?_ | refine blk_alloc ?_ _)); refine blk_put (cs := #[.slice none 0 0, .int .i64 0]) ?_ 1 _ rfl; (with_reducible repeat (first | refine blk_drewN ?_ _ | refine blk_drew ?_ | refine blk_alloc ?_ _)); refine blk_put (cs := #[.slice none 0 0, .int .i64 0]) ?_ 0 _ rfl; (with_reducible repeat (first | refine blk_drewN ?_ _ | refine blk_drew ?_ | refine blk_alloc ?_ _)); exact BK315.out)) : gb316 ≠ gb315)); clear BK315; clear HB; have BK315 := n0_; have HB := n1_; have BK316 := n2_; have GW316 := n3_; have GE316 := n4_; have NB315_316 := n5_; have NB316_315 := n6_; clear n0_ n1_ n2_ n3_ n4_ n5_ n6_; clear hb hbox hg; have hnb12 := NB316_315.out; have hnc12 := NB315_316.out; have hcz13_0 : w11.cell? ⟨gb316, 0, none⟩ = some (.slice none 0 0) := (blk_cell BK316.out 0).trans rfl; have hcz13_1 : w11.cell? ⟨gb316, 1, none⟩ = some (.int .i64 0) := (blk_cell BK316.out 1).trans rfl; have hfz13_0 := blk_frozen BK316.out 0; have hfz13_1 := blk_frozen BK316.out 1))
          go_loopg [9, 10] kj3 (fun kq v9 v10 w' => ∃ (x9_2 : List Int) (x10_2 : Int) (x316000_2 : List (S44)) (x316001_2 : Int) (x317000_2 : List (S44)) (x317001_2 : Int) (u316000 : Value) (u317000 : Value), v10 = .int .i64 x10_2 ∧ Aside0 (heronrylaw21_SchedDrops.l0 kq l0 t314 (Int.tmod (Go.bits .and .i64 a1 65535) (l0.length : Int)) x9_2 x10_2 x316000_2 x316001_2 x317000_2 x317001_2 = some r) ∧ Aside0 (kq ≤ kj3) ∧ Aside0 (Kd.R (Kd.int .i64) 3 w' w.heap.size (fun _ => True) v9 x9_2) ∧ Aside0 (Kd.R k44 44 w' w.heap.size (fun k_ => some k_ ≠ (u317000 : Value).ownBlock) u316000 x316000_2) ∧ Aside0 (Kd.R k44 44 w' w.heap.size (fun k_ => some k_ ≠ (u316000 : Value).ownBlock) u317000 x317000_2) ∧ Aside0 (w'.heap[gb315]? = some (.cells #[u316000, .int .i64 x316001_2] 26 (0, 0))) ∧ Aside0 (w'.heap[gb316]? = some (.cells #[u317000, .int .i64 x317001_2] 26 (0, 0))) ∧ Aside0 (Below w.heap.size w w'))
          case atStart => exact ⟨(([] : List Int)), (0), (([] : List (S44))), (1000), (([] : List (S44))), (1000), (.slice none 0 0), (.slice none 0 0), (by first | rfl | (simp; done) | (simp [*]; done)), H', ⟨Nat.le_refl _⟩, ⟨by first | exact Kd.R_nil _ _ _ _ _ | exact Kd.N_nil _ _ _ _ _ | exact Kd.V_nil _ _ _ _ _ | exact Kd.Q_nil _ _ _ _ _ | exact Kd.S_nil _ _ _ _ _⟩, ⟨by first | exact Kd.R_nil _ _ _ _ _ | exact Kd.N_nil _ _ _ _ _ | exact Kd.V_nil _ _ _ _ _ | exact Kd.Q_nil _ _ _ _ _ | exact Kd.S_nil _ _ _ _ _⟩, ⟨by first | exact Kd.R_nil _ _ _ _ _ | exact Kd.N_nil _ _ _ _ _ | exact Kd.V_nil _ _ _ _ _ | exact Kd.Q_nil _ _ _ _ _ | exact Kd.S_nil _ _ _ _ _⟩, ⟨by (with_reducible repeat (first | refine blk_drewN ?_ _ | refine blk_drew ?_ | refine blk_alloc ?_ _)); refine blk_far ?_ NB315_316.out _; (with_reducible repeat (first | refine blk_drewN ?_ _ | refine blk_drew ?_ | refine blk_alloc ?_ _)); refine blk_far ?_ NB315_316.out _; (with_reducible repeat (first | refine blk_drewN ?_ _ | refine blk_drew ?_ | refine blk_alloc ?_ _)); exact BK315.out⟩, ⟨by (with_reducible repeat (first | refine blk_drewN ?_ _ | refine blk_drew ?_ | refine blk_alloc ?_ _)); refine blk_put (cs := #[.slice none 0 0, .int .i64 0]) ?_ 1 _ rfl; (with_reducible repeat (first | refine blk_drewN ?_ _ | refine blk_drew ?_ | refine blk_alloc ?_ _)); refine blk_put (cs := #[.slice none 0 0, .int .i64 0]) ?_ 0 _ rfl; (with_reducible repeat (first | refine blk_drewN ?_ _ | refine blk_drew ?_ | refine blk_alloc ?_ _)); exact BK316.out⟩, ⟨by repeat (first | (with_reducible first | exact HB.out | apply below_alloc | apply pw_below_drewN | apply below_drew1 | refine below_set ?_ GE315.out | refine below_set ?_ GE316.out) | exact HB.out)⟩⟩
          case round =>
            clear H'
            try clear c1
            try clear p2
            try clear c6
            try clear c6b0
            try clear c6b1
            try clear c7
            try clear c8
            try clear c8b0
            try clear c8b1
            try clear c8b2
            try clear c12
            try clear hcz10_0
            try clear hcz10_1
            try clear hcz13_0
            try clear hcz13_1
            try clear hfz10_0
            try clear hfz10_1
            try clear hfz13_0
            try clear hfz13_1
            try clear p2
            obtain ⟨x9_2, x10_2, x316000_2, x316001_2, x317000_2, x317001_2, u316000, u317000, rfl, HA, HK2, HO_9, HO_316000, HO_317000, BK315, BK316, HB⟩ := hrel
            cases gk with
            | zero => exact absurd HA.out (by simp [heronrylaw21_SchedDrops.l0])
            | succ k2 =>
              have H := HA.out
              clear HA
              simp only [heronrylaw21_SchedDrops.l0] at H
              by_cases c14 : x10_2 < (l0.length : Int)
              · rw [if_pos c14] at H
                have c14b0 : decide (x10_2 < (l0.length : Int)) = true := decide_eq_true c14
                clear c14
                by_cases c15 : 0 ≤ x10_2
                · rw [if_pos c15] at H
                  have c15b0 : decide (0 ≤ x10_2) = true := decide_eq_true c15
                  clear c15
                  replace H := Option.bind_eq_some_iff.mp H
                  obtain ⟨t318, A160, H⟩ := H
                  replace H : (if t318 = 4 then (some t314) else ((sched_Add.f k2 x316000_2 x316001_2 x10_2 (rd l0 x10_2)).bind fun bt320 => (if bt320.2.2 = 0 then (if x9_2.length < 17592186044416 then ((some (x9_2 ++ [x10_2] : List Int)).bind fun y326 => (if x10_2 = (Int.tmod (Go.bits .and .i64 a1 65535) (l0.length : Int)) then (heronrylaw21_SchedDrops.l0 k2 l0 t314 (Int.tmod (Go.bits .and .i64 a1 65535) (l0.length : Int)) y326 (wrap64 (x10_2 + 1)) bt320.1 bt320.2.1 x317000_2 x317001_2) else ((sched_Add.f k2 x317000_2 x317001_2 x10_2 (rd l0 x10_2)).bind fun bt330 => (if bt330.2.2 = 0 then (heronrylaw21_SchedDrops.l0 k2 l0 t314 (Int.tmod (Go.bits .and .i64 a1 65535) (l0.length : Int)) y326 (wrap64 (x10_2 + 1)) bt320.1 bt320.2.1 bt330.1 bt330.2.1) else (some false))))) else (none)) else (some false)))) = some r := H
                  have A16 := Aside0.mk A160
                  clear A160
                  by_cases c17 : t318 = 4
                  · rw [if_pos c17] at H
                    have c17b0 : (t318 == 4) = true := beq_iff_eq.mpr c17
                    have c17b1 : (t318 != 4) = false := bne_eq_false_iff_eq.mpr c17
                    clear c17
                    obtain rfl := Option.some.inj H
                    have p317 : 0 ≤ (x10_2 : Int) := of_decide_eq_true (by first | (with_reducible assumption) | assumption)
                    have q317 : x10_2 < (l0.length : Int) := of_decide_eq_true (by first | (with_reducible assumption) | assumption)
                    obtain ⟨ad317, e317, hx317_0⟩ := Kd.at_int HR0.out x10_2 p317 q317
                    cases e317
                    replace hx317_0 := (HB.out.cell (World.block_lt_of_cell? w _ hx317_0)).trans hx317_0
                    replace p317 := eq_true p317
                    replace q317 := eq_true q317
                    go_wp2_with (first | ((with_reducible refine gate_callee (f := 9) rfl ?_); refine goesL_ (some 52) rfl rfl Try.func9 (by kernel_rfl) rfl #[.int .u64 (rd l0 x10_2)] rfl (by (try simp only [List.map_toArray, List.map_cons, List.map_nil]); first | done | rfl | (simp only [List.length_drop, List.length_take]; rfl)) ?_; (with_reducible refine (float_Class.calls (rd l0 x10_2) t318 _ A16.out).mono ?_); rintro e w' ⟨rfl, ⟨nd, rfl⟩⟩; refine ⟨_, rfl, ?_⟩))
                    go_ret
                    exact ⟨by first | rfl | (simp [errW_none, errW_some] <;> rfl) | (simp [*, errW_none, errW_some] <;> rfl), by repeat (first | (with_reducible first | exact HB.out | apply below_alloc | apply pw_below_drewN | apply below_drew1 | refine below_set ?_ GE315.out | refine below_set ?_ GE316.out) | exact HB.out)⟩
                  · rw [if_neg c17] at H
                    have c17b0 : (t318 == 4) = false := beq_eq_false_iff_ne.mpr c17
                    have c17b1 : (t318 != 4) = true := bne_iff_ne.mpr c17
                    replace H := Option.bind_eq_some_iff.mp H
                    obtain ⟨⟨t320, t323, t324⟩, A180, H⟩ := H
                    replace H : (if t324 = 0 then (if x9_2.length < 17592186044416 then ((some (x9_2 ++ [x10_2] : List Int)).bind fun y326 => (if x10_2 = (Int.tmod (Go.bits .and .i64 a1 65535) (l0.length : Int)) then (heronrylaw21_SchedDrops.l0 k2 l0 t314 (Int.tmod (Go.bits .and .i64 a1 65535) (l0.length : Int)) y326 (wrap64 (x10_2 + 1)) t320 t323 x317000_2 x317001_2) else ((sched_Add.f k2 x317000_2 x317001_2 x10_2 (rd l0 x10_2)).bind fun bt330 => (if bt330.2.2 = 0 then (heronrylaw21_SchedDrops.l0 k2 l0 t314 (Int.tmod (Go.bits .and .i64 a1 65535) (l0.length : Int)) y326 (wrap64 (x10_2 + 1)) t320 t323 bt330.1 bt330.2.1) else (some false))))) else (none)) else (some false)) = some r := H
                    have A18 := Aside0.mk A180
                    clear A180
                    by_cases c19 : t324 = 0
                    · rw [if_pos c19] at H
                      have c19b0 : (t324 == 0) = true := beq_iff_eq.mpr c19
                      have c19b1 : (t324 != 0) = false := bne_eq_false_iff_eq.mpr c19
                      clear c19
                      by_cases c20 : x9_2.length < 17592186044416
                      · rw [if_pos c20] at H
                        have LMc20 := Aside0.mk c20
                        clear c20
                        obtain ⟨y326, hy326⟩ : ∃ y_ : List Int, y_ = (x9_2 ++ [x10_2]) := ⟨_, rfl⟩
                        replace H : (if x10_2 = (Int.tmod (Go.bits .and .i64 a1 65535) (l0.length : Int)) then (heronrylaw21_SchedDrops.l0 k2 l0 t314 (Int.tmod (Go.bits .and .i64 a1 65535) (l0.length : Int)) y326 (wrap64 (x10_2 + 1)) t320 t323 x317000_2 x317001_2) else ((sched_Add.f k2 x317000_2 x317001_2 x10_2 (rd l0 x10_2)).bind fun bt330 => (if bt330.2.2 = 0 then (heronrylaw21_SchedDrops.l0 k2 l0 t314 (Int.tmod (Go.bits .and .i64 a1 65535) (l0.length : Int)) y326 (wrap64 (x10_2 + 1)) t320 t323 bt330.1 bt330.2.1) else (some false)))) = some r := by first | (rw [hy326]; with_reducible exact H) | (have H2_ := (Option.bind_some _ _).symm.trans H; rw [hy326]; with_reducible exact H2_) | (have H2_ := (Option.bind_some _ _).symm.trans H; with_reducible exact H2_) | with_reducible exact H | (rw [hy326]; exact H) | exact H
                        have Ny326 := Aside0.mk hy326
                        clear hy326
                        by_cases c21 : x10_2 = (Int.tmod (Go.bits .and .i64 a1 65535) (l0.length : Int))
                        · rw [if_pos c21] at H
                          have c21b0 : (x10_2 == (Int.tmod (Go.bits .and .i64 a1 65535) (l0.length : Int))) = true := beq_iff_eq.mpr c21
                          have c21b1 : (x10_2 != (Int.tmod (Go.bits .and .i64 a1 65535) (l0.length : Int))) = false := bne_eq_false_iff_eq.mpr c21
                          clear c21
                          have H' := Aside0.mk H
                          clear H
                          have p317 : 0 ≤ (x10_2 : Int) := of_decide_eq_true (by first | (with_reducible assumption) | assumption)
                          have q317 : x10_2 < (l0.length : Int) := of_decide_eq_true (by first | (with_reducible assumption) | assumption)
                          obtain ⟨ad317, e317, hx317_0⟩ := Kd.at_int HR0.out x10_2 p317 q317
                          cases e317
                          replace hx317_0 := (HB.out.cell (World.block_lt_of_cell? w _ hx317_0)).trans hx317_0
                          replace p317 := eq_true p317
                          replace q317 := eq_true q317
                          try go_wp2_with (first | ((with_reducible refine gate_callee (f := 9) rfl ?_); refine goesL_ (some 52) rfl rfl Try.func9 (by kernel_rfl) rfl #[.int .u64 (rd l0 x10_2)] rfl (by (try simp only [List.map_toArray, List.map_cons, List.map_nil]); first | done | rfl | (simp only [List.length_drop, List.length_take]; rfl)) ?_; (with_reducible refine (float_Class.calls (rd l0 x10_2) t318 _ A16.out).mono ?_); rintro e w' ⟨rfl, ⟨nd, rfl⟩⟩; refine ⟨_, rfl, ?_⟩; (try (rw [drewN_self wr]; generalize hq_ : World.drewN wr _ = wr; have n0_ : Aside0 (Kd.R k44 44 wr w.heap.size (fun k_ => some k_ ≠ (u317000 : Value).ownBlock) u316000 x316000_2) := ⟨by rw [← hq_]; exact (by (with_reducible repeat (first | apply Kd.R_alloc | apply Kd.R_drewN | apply Kd.R_drew)); exact HO_316000.out)⟩; have n1_ : Aside0 (Kd.R k44 44 wr w.heap.size (fun k_ => some k_ ≠ (u316000 : Value).ownBlock) u317000 x317000_2) := ⟨by rw [← hq_]; exact (by (with_reducible repeat (first | apply Kd.R_alloc | apply Kd.R_drewN | apply Kd.R_drew)); exact HO_317000.out)⟩; have n2_ : Aside0 (Kd.R (Kd.int .i64) 3 wr w.heap.size (fun _ => True) u9 x9_2) := ⟨by rw [← hq_]; exact (by (with_reducible repeat (first | apply Kd.R_alloc | apply Kd.R_drewN | apply Kd.R_drew)); exact HO_9.out)⟩; have n3_ : Aside0 (wr.heap[gb315]? = some (.cells #[u316000, .int .i64 x316001_2] 26 (0, 0))) := ⟨by rw [← hq_]; exact (by (with_reducible repeat (first | refine blk_drewN ?_ _ | refine blk_drew ?_ | refine blk_alloc ?_ _)); exact BK315.out)⟩; have n4_ : Aside0 (wr.heap[gb316]? = some (.cells #[u317000, .int .i64 x317001_2] 26 (0, 0))) := ⟨by rw [← hq_]; exact (by (with_reducible repeat (first | refine blk_drewN ?_ _ | refine blk_drew ?_ | refine blk_alloc ?_ _)); exact BK316.out)⟩; have n5_ : Aside0 (Below w.heap.size w wr) := ⟨by rw [← hq_]; exact (by repeat (first | (with_reducible first | exact HB.out | apply below_alloc | apply pw_below_drewN | apply below_drew1 | refine below_set ?_ GE315.out | refine below_set ?_ GE316.out) | exact HB.out))⟩; clear HO_316000 HO_317000 HO_9 BK315 BK316 HB hq_; have HO_316000 := n0_; have HO_317000 := n1_; have HO_9 := n2_; have BK315 := n3_; have BK316 := n4_; have HB := n5_; clear n0_ n1_ n2_ n3_ n4_ n5_)); obtain ⟨Ao22, co22, eo22⟩ := Kd.R_slice HO_316000.out; subst eo22))
                          have n0_ := Aside0.mk (Kd.R_drew HO_9.out)
                          have n1_ := Aside0.mk (Kd.R_drew HO_316000.out)
                          have n2_ := Aside0.mk (Kd.R_drew HO_317000.out)
                          have n3_ := Aside0.mk (blk_drew BK315.out)
                          have n4_ := Aside0.mk (blk_drew BK316.out)
                          have n5_ := Aside0.mk (below_drew1 HB.out)
                          clear HO_9
                          clear HO_316000
                          clear HO_317000
                          clear BK315
                          clear BK316
                          clear HB
                          have HO_9 := n0_
                          have HO_316000 := n1_
                          have HO_317000 := n2_
                          have BK315 := n3_
                          have BK316 := n4_
                          have HB := n5_
                          clear n0_ n1_ n2_ n3_ n4_ n5_
                          have p319 : 0 ≤ (x10_2 : Int) := of_decide_eq_true (by first | (with_reducible assumption) | assumption)
                          have q319 : x10_2 < (l0.length : Int) := of_decide_eq_true (by first | (with_reducible assumption) | assumption)
                          obtain ⟨ad319, e319, hx319_0⟩ := Kd.at_int HR0.out x10_2 p319 q319
                          have hw319_0 := hx319_0
                          obtain rfl : ad317 = ad319 := (by injection e319)
                          replace hx319_0 := (HB.out.cell (World.block_lt_of_cell? w _ hx319_0)).trans hx319_0
                          replace p319 := eq_true p319
                          replace q319 := eq_true q319
                          refine start_ (n := 13) (S := fun w' => w'.cell? ⟨gb315, 0, none⟩ = some (.slice Ao22 x316000_2.length co22) ∧ w'.cell? ⟨gb315, 1, none⟩ = some (.int .i64 x316001_2) ∧ w'.cell? (ad317.add (x10_2).toNat) = some (.int .u64 (rd l0 x10_2))) (ds := []) #[false, false, false, false, false, false, false, false, false, false, false, false, false] (by kernel_rfl) rfl rfl ⟨(blk_cell BK315.out 0).trans rfl, (blk_cell BK315.out 1).trans rfl, ((HB.out.cell (World.block_lt_of_cell? w _ hw319_0)).trans hw319_0)⟩ (fun hHeld => ?_); refine with_tabW heronrylaw21_SchedDrops.tab13 heronrylaw21_SchedDrops.bits13 (fun HT_ HW_ => ?_)
                          generalize wr.drew = w23 at HO_9 HO_316000 HO_317000 BK315 BK316 HB hx319_0 hHeld ⊢
                          refine pure_ (i := 1) (N := some 57) (v := ?_) (a' := ?_) #[false, true, false, false, false, false, false, false, false, false, false, false, false] rfl rfl (any_of HT_.out (by kernel_rfl)) (fun _ _ _ h => h) (Or.inl ⟨by rfl, ?_⟩) ?_ ?_
                          rotate_left
                          · intro w'
                            go_simp
                            with_reducible rfl
                          rotate_left
                          · simp only [Act.put, List.setIfInBounds_toArray, List.set_cons_zero, List.set_cons_succ, i64_w, i32_w]
                            rfl
                          refine pure_ (i := 2) (N := some 58) (v := ?_) (a' := ?_) #[false, true, true, false, false, false, false, false, false, false, false, false, false] rfl rfl (any_of HT_.out (by kernel_rfl)) (fun _ _ _ h => h) (Or.inl ⟨by rfl, ?_⟩) ?_ ?_
                          rotate_left
                          · intro w'
                            go_simp
                            with_reducible rfl
                          rotate_left
                          · simp only [Act.put, List.setIfInBounds_toArray, List.set_cons_zero, List.set_cons_succ, i64_w, i32_w]
                            rfl
                          refine pure_ (i := 3) (N := some 59) (v := ?_) (a' := ?_) #[false, true, true, true, false, false, false, false, false, false, false, false, false] rfl rfl (any_of HT_.out (by kernel_rfl)) (fun _ _ _ h => h) (Or.inl ⟨by rfl, ?_⟩) ?_ ?_
                          rotate_left
                          · intro w'
                            go_simp
                            with_reducible rfl
                          rotate_left
                          · simp only [Act.put, List.setIfInBounds_toArray, List.set_cons_zero, List.set_cons_succ, i64_w, i32_w]
                            rfl
                          refine pure_ (i := 4) (N := some 60) (v := ?_) (a' := ?_) #[false, true, true, true, true, false, false, false, false, false, false, false, false] rfl rfl (any_of HT_.out (by kernel_rfl)) (fun _ _ _ h => h) (Or.inl ⟨by rfl, ?_⟩) ?_ ?_
                          rotate_left
                          · intro w'
                            go_simp
                            with_reducible rfl
                          rotate_left
                          · simp only [Act.put, List.setIfInBounds_toArray, List.set_cons_zero, List.set_cons_succ, i64_w, i32_w]
                            rfl
                          refine take_ (i := 0) (N := some 56) (v := ?_) (a' := ?_) #[true, true, true, true, true, false, false, false, false, false, false, false, false] rfl rfl (take_ofW HT_.out HW_.out (by kernel_rfl)) (fun _ _ _ h => h) (Or.inl ⟨by rfl, ?_⟩) hHeld ?_ ?_
                          rotate_left
                          · rintro w' ⟨s0, s1, s2⟩
                            go_simp
                            with_reducible rfl
                          rotate_left
                          · simp only [Act.put, List.setIfInBounds_toArray, List.set_cons_zero, List.set_cons_succ, i64_w, i32_w]
                            rfl
                          refine take_ (i := 5) (N := some 61) (v := ?_) (a' := ?_) #[true, true, true, true, true, true, false, false, false, false, false, false, false] rfl rfl (take_ofW HT_.out HW_.out (by kernel_rfl)) (fun _ _ _ h => h) (Or.inl ⟨by rfl, ?_⟩) hHeld ?_ ?_
                          rotate_left
                          · rintro w' ⟨s0, s1, s2⟩
                            go_simp
                            with_reducible rfl
                          rotate_left
                          · simp only [Act.put, List.setIfInBounds_toArray, List.set_cons_zero, List.set_cons_succ, i64_w, i32_w]
                            rfl
                          refine join_ (σ := Value × Nat) 2 #[true, true, true, true, true, true, true, true, true, true, true, false, false] (fun s_ => [(62, .tuple #[.agg #[s_.1, .int .i64 t323], .int .i64 t324]), (11, .pointer (some ⟨s_.2, 0, none⟩)), (55, .tuple #[.agg #[s_.1, .int .i64 t323], .int .i64 t324]), (63, .agg #[s_.1, .int .i64 t323]), (64, .int .i64 t324)]) (fun s_ w' => (w'.cell? ⟨gb315, 0, none⟩ = some (.slice Ao22 x316000_2.length co22) ∧ w'.cell? ⟨gb315, 1, none⟩ = some (.int .i64 x316001_2) ∧ w'.cell? (ad317.add (x10_2).toNat) = some (.int .u64 (rd l0 x10_2))) ∧ (Kd.R k44 44 w' w.heap.size (fun k_ => some k_ ≠ (.slice Ao22 x316000_2.length co22 : Value).ownBlock ∧ some k_ ≠ (u317000 : Value).ownBlock) s_.1 t320) ∧ (Kd.R k44 44 w' w.heap.size (fun k_ => some k_ ≠ (s_.1 : Value).ownBlock ∧ some k_ ≠ (u317000 : Value).ownBlock) (.slice Ao22 x316000_2.length co22) x316000_2) ∧ (Kd.R k44 44 w' w.heap.size (fun k_ => some k_ ≠ (s_.1 : Value).ownBlock ∧ some k_ ≠ (.slice Ao22 x316000_2.length co22 : Value).ownBlock) u317000 x317000_2) ∧ (Kd.R (Kd.int .i64) 3 w' w.heap.size (fun _ => True) u9 x9_2) ∧ (w'.heap[gb315]? = some (.cells #[.slice Ao22 x316000_2.length co22, .int .i64 x316001_2] 26 (0, 0))) ∧ (w'.heap[gb316]? = some (.cells #[u317000, .int .i64 x317001_2] 26 (0, 0))) ∧ (w'.heap[s_.2]? = some (.cells #[.slice none 0 0, .int .i64 0] 26 (0, 0))) ∧ (w.heap.size ≤ s_.2) ∧ (w.heap.size ≤ s_.2) ∧ (gb315 ≠ s_.2) ∧ (s_.2 ≠ gb315) ∧ (gb316 ≠ s_.2) ∧ (s_.2 ≠ gb316) ∧ (Below w.heap.size w w')) ?_ ?_
                          rotate_left
                          · intro hCont
                            refine two_ (i := 6) (j := 10) (Ni := some 62) (Nj := some 11) #[true, true, true, true, true, true, true, false, false, false, false, false, false] #[true, true, true, true, true, true, false, false, false, false, true, false, false] rfl rfl rfl rfl (two_of HT_.out (by kernel_rfl)) (by decide) (by decide) (fun K hK => ?_) (fun K hK => ?_)
                            · skip
                              refine goes_ Try.func10 (by kernel_rfl) rfl #[.agg #[.slice Ao22 x316000_2.length co22, .int .i64 x316001_2], .int .i64 x10_2, .int .u64 (rd l0 x10_2)] (by rfl) rfl rfl (by (try simp only [List.map_toArray, List.map_cons, List.map_nil]); first | done | rfl | (simp only [List.length_drop, List.length_take]; rfl)) ?_
                              with_reducible refine (sched_Add.calls k2 _ _ x316000_2 x316001_2 x10_2 (rd l0 x10_2) t320 t323 t324 _ ?side1 ?side2 A18.out).mono ?_
                              (case side1 => repeat (first | exact (Kd.R_reads' HO_316000.out).2.2 | (with_reducible refine Kd.C_alloc ?_ _) | (with_reducible refine Kd.C_drewN ?_ _) | (with_reducible refine Kd.C_drew ?_)))
                              (case side2 => exact (Kd.R_reads' HO_316000.out).2.1)
                              rintro e w24 ⟨v321, rfl, ho0, hb⟩
                              refine ⟨_, rfl, ?_⟩
                              have n0_ := Aside0.mk (Kd.R_below (by (with_reducible repeat (first | apply Kd.R_alloc | apply Kd.R_drewN | apply Kd.R_drew)); exact HO_9.out) hb)
                              have n1_ := Aside0.mk (Kd.R_elder' (by (with_reducible repeat (first | apply Kd.R_alloc | apply Kd.R_drewN | apply Kd.R_drew)); exact HO_316000.out) (Kd.R_base ho0) hb)
                              have n2_ := Aside0.mk (Kd.R_elder' (by (with_reducible repeat (first | apply Kd.R_alloc | apply Kd.R_drewN | apply Kd.R_drew)); exact HO_317000.out) (Kd.R_base ho0) hb)
                              have n3_ := Aside0.mk (Kd.R_lower (Kd.R_new' (Kd.R_new' ho0 (Kd.R_lt (by (with_reducible repeat (first | apply Kd.R_alloc | apply Kd.R_drewN | apply Kd.R_drew)); exact HO_316000.out))) (Kd.R_lt (by (with_reducible repeat (first | apply Kd.R_alloc | apply Kd.R_drewN | apply Kd.R_drew)); exact HO_317000.out))) (below_size (by repeat (first | (with_reducible first | exact HB.out | apply below_alloc | apply pw_below_drewN | apply below_drew1 | refine below_set ?_ GE315.out | refine below_set ?_ GE316.out) | exact HB.out))))
                              have n4_ := Aside0.mk (blk_below (g := gb315) (o := .cells #[.slice Ao22 x316000_2.length co22, .int .i64 x316001_2] 26 (0, 0)) (by (with_reducible repeat (first | refine blk_drewN ?_ _ | refine blk_drew ?_ | refine blk_alloc ?_ _)); exact BK315.out) hb)
                              have n5_ := Aside0.mk (blk_below (g := gb316) (o := .cells #[u317000, .int .i64 x317001_2] 26 (0, 0)) (by (with_reducible repeat (first | refine blk_drewN ?_ _ | refine blk_drew ?_ | refine blk_alloc ?_ _)); exact BK316.out) hb)
                              have n6_ := Aside0.mk (below_step (by repeat (first | (with_reducible first | exact HB.out | apply below_alloc | apply pw_below_drewN | apply below_drew1 | refine below_set ?_ GE315.out | refine below_set ?_ GE316.out) | exact HB.out)) hb)
                              clear HO_9
                              clear HO_316000
                              clear HO_317000
                              clear BK315
                              clear BK316
                              clear HB
                              have HO_9 := n0_
                              have HO_316000 := n1_
                              have HO_317000 := n2_
                              have HO322 := n3_
                              have BK315 := n4_
                              have BK316 := n5_
                              have HB := n6_
                              clear n0_ n1_ n2_ n3_ n4_ n5_ n6_
                              (try clear hb)
                              (try clear hb2)
                              (try clear hk)
                              (try clear hi)
                              (try clear ho0)
                              refine hK.out _ _ ⟨(blk_cell BK315.out 0).trans rfl, (blk_cell BK315.out 1).trans rfl, ((HB.out.cell (World.block_lt_of_cell? w _ hw319_0)).trans hw319_0)⟩ (fun hHeld => ?_)
                              clear hK K
                              refine norm_ (a' := ?_) ?_ ?_
                              rotate_left
                              · show Act.put _ (some 62) _ = _
                                simp only [Act.put, List.setIfInBounds_toArray, List.set_cons_zero, List.set_cons_succ, i64_w, i32_w]
                                rfl
                              refine pure_ (i := 7) (N := some 55) (v := ?_) (a' := ?_) #[true, true, true, true, true, true, true, true, false, false, false, false, false] rfl rfl (any_of HT_.out (by kernel_rfl)) (fun _ _ _ h => h) (Or.inl ⟨by rfl, ?_⟩) ?_ ?_
                              rotate_left
                              · intro w'
                                go_simp
                                with_reducible rfl
                              rotate_left
                              · simp only [Act.put, List.setIfInBounds_toArray, List.set_cons_zero, List.set_cons_succ, i64_w, i32_w]
                                rfl
                              refine pure_ (i := 8) (N := some 63) (v := ?_) (a' := ?_) #[true, true, true, true, true, true, true, true, true, false, false, false, false] rfl rfl (any_of HT_.out (by kernel_rfl)) (fun _ _ _ h => h) (Or.inl ⟨by rfl, ?_⟩) ?_ ?_
                              rotate_left
                              · intro w'
                                go_simp
                                with_reducible rfl
                              rotate_left
                              · simp only [Act.put, List.setIfInBounds_toArray, List.set_cons_zero, List.set_cons_succ, i64_w, i32_w]
                                rfl
                              refine pure_ (i := 9) (N := some 64) (v := ?_) (a' := ?_) #[true, true, true, true, true, true, true, true, true, true, false, false, false] rfl rfl (any_of HT_.out (by kernel_rfl)) (fun _ _ _ h => h) (Or.inl ⟨by rfl, ?_⟩) ?_ ?_
                              rotate_left
                              · intro w'
                                go_simp
                                with_reducible rfl
                              rotate_left
                              · simp only [Act.put, List.setIfInBounds_toArray, List.set_cons_zero, List.set_cons_succ, i64_w, i32_w]
                                rfl
                              refine one_ (i := 10) (N := some 11) #[true, true, true, true, true, true, true, true, true, true, true, false, false] rfl rfl (one_of HT_.out (by kernel_rfl)) (by decide) (fun K hK => ?_)
                              refine box_step ?hg (N := 11) ?hd (cs := #[.slice none 0 0, .int .i64 0]) (t := 26) ?hr ?_; (case hd => rfl); (case hg => rfl); (case hr => first | (go_simp; done) | (go_simp; rfl))
                              intro gb325 hg w25 hbox hb
                              have n0_ := Aside0.mk (Kd.R_below (by (with_reducible repeat (first | apply Kd.R_alloc | apply Kd.R_drewN | apply Kd.R_drew)); exact HO_9.out) hb)
                              have n1_ := Aside0.mk (Kd.R_below (by (with_reducible repeat (first | apply Kd.R_alloc | apply Kd.R_drewN | apply Kd.R_drew)); exact HO_316000.out) hb)
                              have n2_ := Aside0.mk (Kd.R_below (by (with_reducible repeat (first | apply Kd.R_alloc | apply Kd.R_drewN | apply Kd.R_drew)); exact HO_317000.out) hb)
                              have n3_ := Aside0.mk (Kd.R_below (by (with_reducible repeat (first | apply Kd.R_alloc | apply Kd.R_drewN | apply Kd.R_drew)); exact HO322.out) hb)
                              have n4_ := Aside0.mk (blk_below (g := gb315) (o := .cells #[.slice Ao22 x316000_2.length co22, .int .i64 x316001_2] 26 (0, 0)) (by (with_reducible repeat (first | refine blk_drewN ?_ _ | refine blk_drew ?_ | refine blk_alloc ?_ _)); exact BK315.out) hb)
                              have n5_ := Aside0.mk (blk_below (g := gb316) (o := .cells #[u317000, .int .i64 x317001_2] 26 (0, 0)) (by (with_reducible repeat (first | refine blk_drewN ?_ _ | refine blk_drew ?_ | refine blk_alloc ?_ _)); exact BK316.out) hb)
                              have n6_ := Aside0.mk (below_step (by repeat (first | (with_reducible first | exact HB.out | apply below_alloc | apply pw_below_drewN | apply below_drew1 | refine below_set ?_ GE315.out | refine below_set ?_ GE316.out) | exact HB.out)) hb)
                              have n7_ := Aside0.mk (hbox)
                              have n8_ := Aside0.mk ((by rw [hg]; exact (below_size (by repeat (first | (with_reducible first | exact HB.out | apply below_alloc | apply pw_below_drewN | apply below_drew1 | refine below_set ?_ GE315.out | refine below_set ?_ GE316.out) | exact HB.out))) : w.heap.size ≤ gb325))
                              have n9_ := Aside0.mk ((by rw [hg]; exact (below_size (by repeat (first | (with_reducible first | exact HB.out | apply below_alloc | apply pw_below_drewN | apply below_drew1 | refine below_set ?_ GE315.out | refine below_set ?_ GE316.out) | exact HB.out))) : w.heap.size ≤ gb325))
                              have n10_ := Aside0.mk ((by rw [hg]; exact Nat.ne_of_lt (blk_lt (g := gb315) (o := .cells #[.slice Ao22 x316000_2.length co22, .int .i64 x316001_2] 26 (0, 0)) (by (with_reducible repeat (first | refine blk_drewN ?_ _ | refine blk_drew ?_ | refine blk_alloc ?_ _)); exact BK315.out)) : gb315 ≠ gb325))
                              have n11_ := Aside0.mk ((by rw [hg]; exact Nat.ne_of_gt (blk_lt (g := gb315) (o := .cells #[.slice Ao22 x316000_2.length co22, .int .i64 x316001_2] 26 (0, 0)) (by (with_reducible repeat (first | refine blk_drewN ?_ _ | refine blk_drew ?_ | refine blk_alloc ?_ _)); exact BK315.out)) : gb325 ≠ gb315))
                              have n12_ := Aside0.mk ((by rw [hg]; exact Nat.ne_of_lt (blk_lt (g := gb316) (o := .cells #[u317000, .int .i64 x317001_2] 26 (0, 0)) (by (with_reducible repeat (first | refine blk_drewN ?_ _ | refine blk_drew ?_ | refine blk_alloc ?_ _)); exact BK316.out)) : gb316 ≠ gb325))
                              have n13_ := Aside0.mk ((by rw [hg]; exact Nat.ne_of_gt (blk_lt (g := gb316) (o := .cells #[u317000, .int .i64 x317001_2] 26 (0, 0)) (by (with_reducible repeat (first | refine blk_drewN ?_ _ | refine blk_drew ?_ | refine blk_alloc ?_ _)); exact BK316.out)) : gb325 ≠ gb316))
                              clear HO_9
                              clear HO_316000
                              clear HO_317000
                              clear HO322
                              clear BK315
                              clear BK316
                              clear HB
                              have HO_9 := n0_
                              have HO_316000 := n1_
                              have HO_317000 := n2_
                              have HO322 := n3_
                              have BK315 := n4_
                              have BK316 := n5_
                              have HB := n6_
                              have BK325 := n7_
                              have GW325 := n8_
                              have GE325 := n9_
                              have NB315_325 := n10_
                              have NB325_315 := n11_
                              have NB316_325 := n12_
                              have NB325_316 := n13_
                              clear n0_ n1_ n2_ n3_ n4_ n5_ n6_ n7_ n8_ n9_ n10_ n11_ n12_ n13_
                              clear hb hbox hg
                              refine hK.out _ _ ⟨(blk_cell BK315.out 0).trans rfl, (blk_cell BK315.out 1).trans rfl, ((HB.out.cell (World.block_lt_of_cell? w _ hw319_0)).trans hw319_0)⟩ (fun hHeld => ?_)
                              clear hK K
                              refine norm_ (a' := ?_) ?_ ?_
                              rotate_left
                              · show Act.put _ (some 11) _ = _
                                simp only [Act.put, List.setIfInBounds_toArray, List.set_cons_zero, List.set_cons_succ, i64_w, i32_w]
                                rfl
                              exact norm_ (by simp only [putAll, Act.put, List.setIfInBounds_toArray, List.set_cons_zero, List.set_cons_succ]) (hCont (v321, gb325) _ ⟨hHeld, (by (with_reducible repeat (first | apply Kd.R_alloc | apply Kd.R_drewN | apply Kd.R_drew)); exact Kd.R_mono HO322.out (fun _ hk => ⟨hk.1.2, hk.2⟩)), (by (with_reducible repeat (first | apply Kd.R_alloc | apply Kd.R_drewN | apply Kd.R_drew)); exact Kd.R_mono HO_316000.out (fun _ hk => ⟨hk.2, hk.1⟩)), (by (with_reducible repeat (first | apply Kd.R_alloc | apply Kd.R_drewN | apply Kd.R_drew)); exact Kd.R_mono HO_317000.out (fun _ hk => ⟨hk.2, hk.1⟩)), (by (with_reducible repeat (first | apply Kd.R_alloc | apply Kd.R_drewN | apply Kd.R_drew)); exact HO_9.out), (by (with_reducible repeat (first | refine blk_drewN ?_ _ | refine blk_drew ?_ | refine blk_alloc ?_ _)); exact BK315.out), (by (with_reducible repeat (first | refine blk_drewN ?_ _ | refine blk_drew ?_ | refine blk_alloc ?_ _)); exact BK316.out), (by (with_reducible repeat (first | refine blk_drewN ?_ _ | refine blk_drew ?_ | refine blk_alloc ?_ _)); exact BK325.out), GW325.out, GE325.out, NB315_325.out, NB325_315.out, NB316_325.out, NB325_316.out, (by repeat (first | (with_reducible first | exact HB.out | apply below_alloc | apply pw_below_drewN | apply below_drew1 | refine below_set ?_ GE315.out | refine below_set ?_ GE316.out | refine below_set ?_ GE325.out) | exact HB.out))⟩)
                            · skip
                              refine box_step ?hg (N := 11) ?hd (cs := #[.slice none 0 0, .int .i64 0]) (t := 26) ?hr ?_; (case hd => rfl); (case hg => rfl); (case hr => first | (go_simp; done) | (go_simp; rfl))
                              intro gb325 hg w24 hbox hb
                              have n0_ := Aside0.mk (Kd.R_below (by (with_reducible repeat (first | apply Kd.R_alloc | apply Kd.R_drewN | apply Kd.R_drew)); exact HO_9.out) hb)
                              have n1_ := Aside0.mk (Kd.R_below (by (with_reducible repeat (first | apply Kd.R_alloc | apply Kd.R_drewN | apply Kd.R_drew)); exact HO_316000.out) hb)
                              have n2_ := Aside0.mk (Kd.R_below (by (with_reducible repeat (first | apply Kd.R_alloc | apply Kd.R_drewN | apply Kd.R_drew)); exact HO_317000.out) hb)
                              have n3_ := Aside0.mk (blk_below (g := gb315) (o := .cells #[.slice Ao22 x316000_2.length co22, .int .i64 x316001_2] 26 (0, 0)) (by (with_reducible repeat (first | refine blk_drewN ?_ _ | refine blk_drew ?_ | refine blk_alloc ?_ _)); exact BK315.out) hb)
                              have n4_ := Aside0.mk (blk_below (g := gb316) (o := .cells #[u317000, .int .i64 x317001_2] 26 (0, 0)) (by (with_reducible repeat (first | refine blk_drewN ?_ _ | refine blk_drew ?_ | refine blk_alloc ?_ _)); exact BK316.out) hb)
                              have n5_ := Aside0.mk (below_step (by repeat (first | (with_reducible first | exact HB.out | apply below_alloc | apply pw_below_drewN | apply below_drew1 | refine below_set ?_ GE315.out | refine below_set ?_ GE316.out) | exact HB.out)) hb)
                              have n6_ := Aside0.mk (hbox)
                              have n7_ := Aside0.mk ((by rw [hg]; exact (below_size (by repeat (first | (with_reducible first | exact HB.out | apply below_alloc | apply pw_below_drewN | apply below_drew1 | refine below_set ?_ GE315.out | refine below_set ?_ GE316.out) | exact HB.out))) : w.heap.size ≤ gb325))
                              have n8_ := Aside0.mk ((by rw [hg]; exact (below_size (by repeat (first | (with_reducible first | exact HB.out | apply below_alloc | apply pw_below_drewN | apply below_drew1 | refine below_set ?_ GE315.out | refine below_set ?_ GE316.out) | exact HB.out))) : w.heap.size ≤ gb325))
                              have n9_ := Aside0.mk ((by rw [hg]; exact Nat.ne_of_lt (blk_lt (g := gb315) (o := .cells #[.slice Ao22 x316000_2.length co22, .int .i64 x316001_2] 26 (0, 0)) (by (with_reducible repeat (first | refine blk_drewN ?_ _ | refine blk_drew ?_ | refine blk_alloc ?_ _)); exact BK315.out)) : gb315 ≠ gb325))
                              have n10_ := Aside0.mk ((by rw [hg]; exact Nat.ne_of_gt (blk_lt (g := gb315) (o := .cells #[.slice Ao22 x316000_2.length co22, .int .i64 x316001_2] 26 (0, 0)) (by (with_reducible repeat (first | refine blk_drewN ?_ _ | refine blk_drew ?_ | refine blk_alloc ?_ _)); exact BK315.out)) : gb325 ≠ gb315))
                              have n11_ := Aside0.mk ((by rw [hg]; exact Nat.ne_of_lt (blk_lt (g := gb316) (o := .cells #[u317000, .int .i64 x317001_2] 26 (0, 0)) (by (with_reducible repeat (first | refine blk_drewN ?_ _ | refine blk_drew ?_ | refine blk_alloc ?_ _)); exact BK316.out)) : gb316 ≠ gb325))
                              have n12_ := Aside0.mk ((by rw [hg]; exact Nat.ne_of_gt (blk_lt (g := gb316) (o := .cells #[u317000, .int .i64 x317001_2] 26 (0, 0)) (by (with_reducible repeat (first | refine blk_drewN ?_ _ | refine blk_drew ?_ | refine blk_alloc ?_ _)); exact BK316.out)) : gb325 ≠ gb316))
                              clear HO_9
                              clear HO_316000
                              clear HO_317000
                              clear BK315
                              clear BK316
                              clear HB
                              have HO_9 := n0_
                              have HO_316000 := n1_
                              have HO_317000 := n2_
                              have BK315 := n3_
                              have BK316 := n4_
                              have HB := n5_
                              have BK325 := n6_
                              have GW325 := n7_
                              have GE325 := n8_
                              have NB315_325 := n9_
                              have NB325_315 := n10_
                              have NB316_325 := n11_
                              have NB325_316 := n12_
                              clear n0_ n1_ n2_ n3_ n4_ n5_ n6_ n7_ n8_ n9_ n10_ n11_ n12_
                              clear hb hbox hg
                              refine hK.out _ _ ⟨(blk_cell BK315.out 0).trans rfl, (blk_cell BK315.out 1).trans rfl, ((HB.out.cell (World.block_lt_of_cell? w _ hw319_0)).trans hw319_0)⟩ (fun hHeld => ?_)
                              clear hK K
                              refine norm_ (a' := ?_) ?_ ?_
                              rotate_left
                              · show Act.put _ (some 11) _ = _
                                simp only [Act.put, List.setIfInBounds_toArray, List.set_cons_zero, List.set_cons_succ, i64_w, i32_w]
                                rfl
                              refine one_ (i := 6) (N := some 62) #[true, true, true, true, true, true, true, false, false, false, true, false, false] rfl rfl (one_of HT_.out (by kernel_rfl)) (by decide) (fun K hK => ?_)
                              refine goes_ Try.func10 (by kernel_rfl) rfl #[.agg #[.slice Ao22 x316000_2.length co22, .int .i64 x316001_2], .int .i64 x10_2, .int .u64 (rd l0 x10_2)] (by rfl) rfl rfl (by (try simp only [List.map_toArray, List.map_cons, List.map_nil]); first | done | rfl | (simp only [List.length_drop, List.length_take]; rfl)) ?_
                              with_reducible refine (sched_Add.calls k2 _ _ x316000_2 x316001_2 x10_2 (rd l0 x10_2) t320 t323 t324 _ ?side1 ?side2 A18.out).mono ?_
                              (case side1 => repeat (first | exact (Kd.R_reads' HO_316000.out).2.2 | (with_reducible refine Kd.C_alloc ?_ _) | (with_reducible refine Kd.C_drewN ?_ _) | (with_reducible refine Kd.C_drew ?_)))
                              (case side2 => exact (Kd.R_reads' HO_316000.out).2.1)
                              rintro e w25 ⟨v321, rfl, ho0, hb⟩
                              refine ⟨_, rfl, ?_⟩
                              have n0_ := Aside0.mk (Kd.R_below (by (with_reducible repeat (first | apply Kd.R_alloc | apply Kd.R_drewN | apply Kd.R_drew)); exact HO_9.out) hb)
                              have n1_ := Aside0.mk (Kd.R_elder' (by (with_reducible repeat (first | apply Kd.R_alloc | apply Kd.R_drewN | apply Kd.R_drew)); exact HO_316000.out) (Kd.R_base ho0) hb)
                              have n2_ := Aside0.mk (Kd.R_elder' (by (with_reducible repeat (first | apply Kd.R_alloc | apply Kd.R_drewN | apply Kd.R_drew)); exact HO_317000.out) (Kd.R_base ho0) hb)
                              have n3_ := Aside0.mk (Kd.R_lower (Kd.R_new' (Kd.R_new' ho0 (Kd.R_lt (by (with_reducible repeat (first | apply Kd.R_alloc | apply Kd.R_drewN | apply Kd.R_drew)); exact HO_316000.out))) (Kd.R_lt (by (with_reducible repeat (first | apply Kd.R_alloc | apply Kd.R_drewN | apply Kd.R_drew)); exact HO_317000.out))) (below_size (by repeat (first | (with_reducible first | exact HB.out | apply below_alloc | apply pw_below_drewN | apply below_drew1 | refine below_set ?_ GE315.out | refine below_set ?_ GE316.out | refine below_set ?_ GE325.out) | exact HB.out))))
                              have n4_ := Aside0.mk (blk_below (g := gb315) (o := .cells #[.slice Ao22 x316000_2.length co22, .int .i64 x316001_2] 26 (0, 0)) (by (with_reducible repeat (first | refine blk_drewN ?_ _ | refine blk_drew ?_ | refine blk_alloc ?_ _)); exact BK315.out) hb)
                              have n5_ := Aside0.mk (blk_below (g := gb316) (o := .cells #[u317000, .int .i64 x317001_2] 26 (0, 0)) (by (with_reducible repeat (first | refine blk_drewN ?_ _ | refine blk_drew ?_ | refine blk_alloc ?_ _)); exact BK316.out) hb)
                              have n6_ := Aside0.mk (blk_below (g := gb325) (o := .cells #[.slice none 0 0, .int .i64 0] 26 (0, 0)) (by (with_reducible repeat (first | refine blk_drewN ?_ _ | refine blk_drew ?_ | refine blk_alloc ?_ _)); exact BK325.out) hb)
                              have n7_ := Aside0.mk (below_step (by repeat (first | (with_reducible first | exact HB.out | apply below_alloc | apply pw_below_drewN | apply below_drew1 | refine below_set ?_ GE315.out | refine below_set ?_ GE316.out | refine below_set ?_ GE325.out) | exact HB.out)) hb)
                              clear HO_9
                              clear HO_316000
                              clear HO_317000
                              clear BK315
                              clear BK316
                              clear BK325
                              clear HB
                              have HO_9 := n0_
                              have HO_316000 := n1_
                              have HO_317000 := n2_
                              have HO322 := n3_
                              have BK315 := n4_
                              have BK316 := n5_
                              have BK325 := n6_
                              have HB := n7_
                              clear n0_ n1_ n2_ n3_ n4_ n5_ n6_ n7_
                              (try clear hb)
                              (try clear hb2)
                              (try clear hk)
                              (try clear hi)
                              (try clear ho0)
                              refine hK.out _ _ ⟨(blk_cell BK315.out 0).trans rfl, (blk_cell BK315.out 1).trans rfl, ((HB.out.cell (World.block_lt_of_cell? w _ hw319_0)).trans hw319_0)⟩ (fun hHeld => ?_)
                              clear hK K
                              refine norm_ (a' := ?_) ?_ ?_
                              rotate_left
                              · show Act.put _ (some 62) _ = _
                                simp only [Act.put, List.setIfInBounds_toArray, List.set_cons_zero, List.set_cons_succ, i64_w, i32_w]
                                rfl
                              refine pure_ (i := 7) (N := some 55) (v := ?_) (a' := ?_) #[true, true, true, true, true, true, true, true, false, false, true, false, false] rfl rfl (any_of HT_.out (by kernel_rfl)) (fun _ _ _ h => h) (Or.inl ⟨by rfl, ?_⟩) ?_ ?_
                              rotate_left
                              · intro w'
                                go_simp
                                with_reducible rfl
                              rotate_left
                              · simp only [Act.put, List.setIfInBounds_toArray, List.set_cons_zero, List.set_cons_succ, i64_w, i32_w]
                                rfl
                              refine pure_ (i := 8) (N := some 63) (v := ?_) (a' := ?_) #[true, true, true, true, true, true, true, true, true, false, true, false, false] rfl rfl (any_of HT_.out (by kernel_rfl)) (fun _ _ _ h => h) (Or.inl ⟨by rfl, ?_⟩) ?_ ?_
                              rotate_left
                              · intro w'
                                go_simp
                                with_reducible rfl
                              rotate_left
                              · simp only [Act.put, List.setIfInBounds_toArray, List.set_cons_zero, List.set_cons_succ, i64_w, i32_w]
                                rfl
                              refine pure_ (i := 9) (N := some 64) (v := ?_) (a' := ?_) #[true, true, true, true, true, true, true, true, true, true, true, false, false] rfl rfl (any_of HT_.out (by kernel_rfl)) (fun _ _ _ h => h) (Or.inl ⟨by rfl, ?_⟩) ?_ ?_
                              rotate_left
                              · intro w'
                                go_simp
                                with_reducible rfl
                              rotate_left
                              · simp only [Act.put, List.setIfInBounds_toArray, List.set_cons_zero, List.set_cons_succ, i64_w, i32_w]
                                rfl
                              exact norm_ (by simp only [putAll, Act.put, List.setIfInBounds_toArray, List.set_cons_zero, List.set_cons_succ]) (hCont (v321, gb325) _ ⟨hHeld, (by (with_reducible repeat (first | apply Kd.R_alloc | apply Kd.R_drewN | apply Kd.R_drew)); exact Kd.R_mono HO322.out (fun _ hk => ⟨hk.1.2, hk.2⟩)), (by (with_reducible repeat (first | apply Kd.R_alloc | apply Kd.R_drewN | apply Kd.R_drew)); exact Kd.R_mono HO_316000.out (fun _ hk => ⟨hk.2, hk.1⟩)), (by (with_reducible repeat (first | apply Kd.R_alloc | apply Kd.R_drewN | apply Kd.R_drew)); exact Kd.R_mono HO_317000.out (fun _ hk => ⟨hk.2, hk.1⟩)), (by (with_reducible repeat (first | apply Kd.R_alloc | apply Kd.R_drewN | apply Kd.R_drew)); exact HO_9.out), (by (with_reducible repeat (first | refine blk_drewN ?_ _ | refine blk_drew ?_ | refine blk_alloc ?_ _)); exact BK315.out), (by (with_reducible repeat (first | refine blk_drewN ?_ _ | refine blk_drew ?_ | refine blk_alloc ?_ _)); exact BK316.out), (by (with_reducible repeat (first | refine blk_drewN ?_ _ | refine blk_drew ?_ | refine blk_alloc ?_ _)); exact BK325.out), GW325.out, GE325.out, NB315_325.out, NB325_315.out, NB316_325.out, NB325_316.out, (by repeat (first | (with_reducible first | exact HB.out | apply below_alloc | apply pw_below_drewN | apply below_drew1 | refine below_set ?_ GE315.out | refine below_set ?_ GE316.out | refine below_set ?_ GE325.out) | exact HB.out))⟩)
                          rintro ⟨v321, gb325⟩ w26 ⟨hS_, h0_, h1_, h2_, h3_, h4_, h5_, h6_, h7_, h8_, h9_, h10_, h11_, h12_, h13_⟩
                          have n0_ : Aside0 (Kd.R k44 44 w26 w.heap.size (fun k_ => some k_ ≠ (.slice Ao22 x316000_2.length co22 : Value).ownBlock ∧ some k_ ≠ (u317000 : Value).ownBlock) v321 t320) := ⟨h0_⟩
                          have n1_ : Aside0 (Kd.R k44 44 w26 w.heap.size (fun k_ => some k_ ≠ (v321 : Value).ownBlock ∧ some k_ ≠ (u317000 : Value).ownBlock) (.slice Ao22 x316000_2.length co22) x316000_2) := ⟨h1_⟩
                          have n2_ : Aside0 (Kd.R k44 44 w26 w.heap.size (fun k_ => some k_ ≠ (v321 : Value).ownBlock ∧ some k_ ≠ (.slice Ao22 x316000_2.length co22 : Value).ownBlock) u317000 x317000_2) := ⟨h2_⟩
                          have n3_ : Aside0 (Kd.R (Kd.int .i64) 3 w26 w.heap.size (fun _ => True) u9 x9_2) := ⟨h3_⟩
                          have n4_ : Aside0 (w26.heap[gb315]? = some (.cells #[.slice Ao22 x316000_2.length co22, .int .i64 x316001_2] 26 (0, 0))) := ⟨h4_⟩
                          have n5_ : Aside0 (w26.heap[gb316]? = some (.cells #[u317000, .int .i64 x317001_2] 26 (0, 0))) := ⟨h5_⟩
                          have n6_ : Aside0 (w26.heap[gb325]? = some (.cells #[.slice none 0 0, .int .i64 0] 26 (0, 0))) := ⟨h6_⟩
                          have n7_ : Aside0 (w.heap.size ≤ gb325) := ⟨h7_⟩
                          have n8_ : Aside0 (w.heap.size ≤ gb325) := ⟨h8_⟩
                          have n9_ : Aside0 (gb315 ≠ gb325) := ⟨h9_⟩
                          have n10_ : Aside0 (gb325 ≠ gb315) := ⟨h10_⟩
                          have n11_ : Aside0 (gb316 ≠ gb325) := ⟨h11_⟩
                          have n12_ : Aside0 (gb325 ≠ gb316) := ⟨h12_⟩
                          have n13_ : Aside0 (Below w.heap.size w w26) := ⟨h13_⟩
                          clear HO_9
                          clear HO_316000
                          clear HO_317000
                          clear BK315
                          clear BK316
                          clear HB
                          clear h0_ h1_ h2_ h3_ h4_ h5_ h6_ h7_ h8_ h9_ h10_ h11_ h12_ h13_
                          have HO322 := n0_
                          have HO_316000 := n1_
                          have HO_317000 := n2_
                          have HO_9 := n3_
                          have BK315 := n4_
                          have BK316 := n5_
                          have BK325 := n6_
                          have GW325 := n7_
                          have GE325 := n8_
                          have NB315_325 := n9_
                          have NB325_315 := n10_
                          have NB316_325 := n11_
                          have NB325_316 := n12_
                          have HB := n13_
                          clear n0_ n1_ n2_ n3_ n4_ n5_ n6_ n7_ n8_ n9_ n10_ n11_ n12_ n13_
                          have hHeld : w26.cell? ⟨gb315, 0, none⟩ = some (.slice Ao22 x316000_2.length co22) ∧ w26.cell? ⟨gb315, 1, none⟩ = some (.int .i64 x316001_2) ∧ w26.cell? (ad317.add (x10_2).toNat) = some (.int .u64 (rd l0 x10_2)) := hS_
                          obtain ⟨Ao27, co27, eo27⟩ := Kd.R_slice HO322.out
                          (first | subst eo27 | (injection eo27 with f1_ f2_ f3_; have f4_ := f1_.symm; have f5_ := f3_.symm; clear f1_ f2_ f3_; subst f4_; subst f5_))
                          refine norm_ (a' := ?_) ?_ ?_
                          rotate_left
                          · simp only [putAll, Act.put, List.setIfInBounds_toArray, List.set_cons_zero, List.set_cons_succ]
                            rfl
                          refine one_ (i := 11) (N := none) #[true, true, true, true, true, true, true, true, true, true, true, true, false] rfl rfl (one_of HT_.out (by kernel_rfl)) (by decide) (fun K hK => ?_)
                          have hs28 : w26.cell? ⟨gb325, 0, none⟩ = some (.slice none 0 0) := (blk_cell BK325.out 0).trans rfl
                          have hfs28 := blk_frozen BK325.out 0
                          have hns28_0 := NB315_325.out
                          have hns28_1 := NB316_325.out
                          have hms28_0 := NB325_315.out
                          have hms28_1 := NB325_316.out
                          have hs29 : w26.cell? ⟨gb325, 1, none⟩ = some (.int .i64 0) := (blk_cell BK325.out 1).trans rfl
                          have hfs29 := blk_frozen BK325.out 1
                          have hns29_0 := NB315_325.out
                          have hns29_1 := NB316_325.out
                          have hms29_0 := NB325_315.out
                          have hms29_1 := NB325_316.out
                          refine skip_ (w1 := ?_) (by rfl) rfl ?_ ?_
                          rotate_left
                          · go_simp
                            rfl
                          refine hK.out _ _ ⟨((cell_far (p := ⟨gb325, _, none⟩) NB315_325.out _).trans (((cell_far (p := ⟨gb325, _, none⟩) NB315_325.out _).trans (hHeld.1)))), ((cell_far (p := ⟨gb325, _, none⟩) NB315_325.out _).trans (((cell_far (p := ⟨gb325, _, none⟩) NB315_325.out _).trans (hHeld.2.1)))), ((cell_far (p := ⟨gb325, _, none⟩) (by first | exact Nat.ne_of_lt (Nat.lt_of_lt_of_le (by have := World.block_lt_of_cell? _ _ hw319_0; first | rwa [add_block] at this | exact this) GW325.out) | (rw [add_block]; exact Nat.ne_of_lt (Nat.lt_of_lt_of_le (by have := World.block_lt_of_cell? _ _ hw319_0; first | rwa [add_block] at this | exact this) GW325.out)) | (show (Addr.add _ _).block ≠ _; rw [add_block]; exact Nat.ne_of_lt (Nat.lt_of_lt_of_le (by have := World.block_lt_of_cell? _ _ hw319_0; first | rwa [add_block] at this | exact this) GW325.out)) | (dsimp only; exact Nat.ne_of_lt (Nat.lt_of_lt_of_le (by have := World.block_lt_of_cell? _ _ hw319_0; first | rwa [add_block] at this | exact this) GW325.out))) _).trans (((cell_far (p := ⟨gb325, _, none⟩) (by first | exact Nat.ne_of_lt (Nat.lt_of_lt_of_le (by have := World.block_lt_of_cell? _ _ hw319_0; first | rwa [add_block] at this | exact this) GW325.out) | (rw [add_block]; exact Nat.ne_of_lt (Nat.lt_of_lt_of_le (by have := World.block_lt_of_cell? _ _ hw319_0; first | rwa [add_block] at this | exact this) GW325.out)) | (show (Addr.add _ _).block ≠ _; rw [add_block]; exact Nat.ne_of_lt (Nat.lt_of_lt_of_le (by have := World.block_lt_of_cell? _ _ hw319_0; first | rwa [add_block] at this | exact this) GW325.out)) | (dsimp only; exact Nat.ne_of_lt (Nat.lt_of_lt_of_le (by have := World.block_lt_of_cell? _ _ hw319_0; first | rwa [add_block] at this | exact this) GW325.out))) _).trans (hHeld.2.2))))⟩ (fun hHeld => ?_)
                          clear hK K
                          refine pure_ (i := 12) (N := some 12) (v := ?_) (a' := ?_) #[true, true, true, true, true, true, true, true, true, true, true, true, true] rfl rfl (any_of HT_.out (by kernel_rfl)) (fun _ _ _ h => h) (Or.inl ⟨by rfl, ?_⟩) ?_ ?_
                          rotate_left
                          · intro w'
                            go_simp
                            with_reducible rfl
                          rotate_left
                          · simp only [Act.put, List.setIfInBounds_toArray, List.set_cons_zero, List.set_cons_succ, i64_w, i32_w]
                            rfl
                          refine done_ (done_of HT_.out (by kernel_rfl)) ?_
                          have hnb30 := NB325_315.out
                          have hnc30 := NB315_325.out
                          have hnb31 := NB325_316.out
                          have hnc31 := NB316_325.out
                          have hcz32_0 : w26.cell? ⟨gb325, 0, none⟩ = some (.slice none 0 0) := (blk_cell BK325.out 0).trans rfl
                          have hcz32_1 : w26.cell? ⟨gb325, 1, none⟩ = some (.int .i64 0) := (blk_cell BK325.out 1).trans rfl
                          have hfz32_0 := blk_frozen BK325.out 0
                          have hfz32_1 := blk_frozen BK325.out 1
                          have hnb33 := NB315_316.out
                          have hnc33 := NB316_315.out
                          have hcz34_0 : w26.cell? ⟨gb315, 0, none⟩ = some (.slice Ao22 x316000_2.length co22) := (blk_cell BK315.out 0).trans rfl
                          have hcz34_1 : w26.cell? ⟨gb315, 1, none⟩ = some (.int .i64 x316001_2) := (blk_cell BK315.out 1).trans rfl
                          have hfz34_0 := blk_frozen BK315.out 0
                          have hfz34_1 := blk_frozen BK315.out 1
                          try go_wp2_with (first | ((with_reducible refine gate_builtin (b := .append) (xs := #[.tmp 68, .tmp 70]) rfl ?_); (try (refine gate_guard (by rfl) ?_; dsimp only)); at_builtin; refine Kd.R_append (Kd.int .i64) (w0 := w) w.heap.size rfl (.tmp 68) (.tmp 70) 27 3 (.int .i64 0) 8 rfl Try.underlying27 info3 rfl (by decide) (by omega) u9 x9_2 x10_2 [.int .i64 x10_2] (fun _ => True) (fun _ => False) rfl (by first | (go_simp; done) | (go_simp; rfl)) ?aP (fun _ hk => hk.elim) ?aF ?aO ?aB ?aS ?aL ?_; (case aP => exact rfl); (case aB => exact (by repeat (first | (with_reducible first | exact HB.out | apply below_alloc | apply pw_below_drewN | apply below_drew1 | refine below_set ?_ GE315.out | refine below_set ?_ GE316.out | refine below_set ?_ GE325.out) | exact HB.out))); (case aF => exact (fun _ _ => trivial)); (case aO => exact (by (with_reducible repeat (first | apply Kd.R_alloc | apply Kd.R_drewN | apply Kd.R_drew)); exact Kd.R_mono (Kd.R_far (p := ⟨gb315, 1, none⟩) (Kd.R_far (p := ⟨gb315, 0, none⟩) (Kd.R_far (p := ⟨gb325, 1, none⟩) (Kd.R_far (p := ⟨gb325, 0, none⟩) (Kd.R_types (Kd.R_types HO_9.out BK325.out (by decide)) BK315.out (by decide)) (fun _ hk => hk.1.2) (.slice Ao27 t320.length co27)) (fun _ hk => hk.1.2) (.int .i64 t323)) (fun _ hk => hk.2) (.slice Ao27 t320.length co27)) (fun _ hk => hk.2) (.int .i64 t323)) (fun _ hk => trivial))); (case aS => exact (below_size (by repeat (first | (with_reducible first | exact HB.out | apply below_alloc | apply pw_below_drewN | apply below_drew1 | refine below_set ?_ GE315.out | refine below_set ?_ GE316.out | refine below_set ?_ GE325.out) | exact HB.out)))); (case aL => have := LMc20.out; omega); intro v327 w35 ho hb hg hat; rw [← Ny326.out] at ho; have n0_ := Aside0.mk (Kd.R_over' (by (with_reducible repeat (first | apply Kd.R_alloc | apply Kd.R_drewN | apply Kd.R_drew)); exact (Kd.R_mono (Kd.R_mono (Kd.R_far (p := ⟨gb315, 1, none⟩) (Kd.R_far (p := ⟨gb315, 0, none⟩) (Kd.R_far (p := ⟨gb325, 1, none⟩) (Kd.R_far (p := ⟨gb325, 0, none⟩) (Kd.R_types (Kd.R_types HO_316000.out BK325.out (by decide)) BK315.out (by decide)) (fun _ hk => hk.1.2) (.slice Ao27 t320.length co27)) (fun _ hk => hk.1.2) (.int .i64 t323)) (fun _ hk => hk.2) (.slice Ao27 t320.length co27)) (fun _ hk => hk.2) (.int .i64 t323)) (fun _ h_ => h_.1)) (fun _ h_ => h_.1))) (Kd.R_typed (by (with_reducible repeat (first | apply Kd.R_alloc | apply Kd.R_drewN | apply Kd.R_drew)); exact (Kd.R_mono (Kd.R_mono (Kd.R_far (p := ⟨gb315, 1, none⟩) (Kd.R_far (p := ⟨gb315, 0, none⟩) (Kd.R_far (p := ⟨gb325, 1, none⟩) (Kd.R_far (p := ⟨gb325, 0, none⟩) (Kd.R_types (Kd.R_types HO_9.out BK325.out (by decide)) BK315.out (by decide)) (fun _ hk => hk.1.2) (.slice Ao27 t320.length co27)) (fun _ hk => hk.1.2) (.int .i64 t323)) (fun _ hk => hk.2) (.slice Ao27 t320.length co27)) (fun _ hk => hk.2) (.int .i64 t323)) (fun _ h_ => h_.1)) (fun _ h_ => h_.1)))) (by decide) hg); have n1_ := Aside0.mk (Kd.R_over' (by (with_reducible repeat (first | apply Kd.R_alloc | apply Kd.R_drewN | apply Kd.R_drew)); exact (Kd.R_mono (Kd.R_mono (Kd.R_far (p := ⟨gb315, 1, none⟩) (Kd.R_far (p := ⟨gb315, 0, none⟩) (Kd.R_far (p := ⟨gb325, 1, none⟩) (Kd.R_far (p := ⟨gb325, 0, none⟩) (Kd.R_types (Kd.R_types HO_317000.out BK325.out (by decide)) BK315.out (by decide)) (fun _ hk => hk.1.2) (.slice Ao27 t320.length co27)) (fun _ hk => hk.1.2) (.int .i64 t323)) (fun _ hk => hk.2) (.slice Ao27 t320.length co27)) (fun _ hk => hk.2) (.int .i64 t323)) (fun _ h_ => h_.1)) (fun _ h_ => h_.1))) (Kd.R_typed (by (with_reducible repeat (first | apply Kd.R_alloc | apply Kd.R_drewN | apply Kd.R_drew)); exact (Kd.R_mono (Kd.R_mono (Kd.R_far (p := ⟨gb315, 1, none⟩) (Kd.R_far (p := ⟨gb315, 0, none⟩) (Kd.R_far (p := ⟨gb325, 1, none⟩) (Kd.R_far (p := ⟨gb325, 0, none⟩) (Kd.R_types (Kd.R_types HO_9.out BK325.out (by decide)) BK315.out (by decide)) (fun _ hk => hk.1.2) (.slice Ao27 t320.length co27)) (fun _ hk => hk.1.2) (.int .i64 t323)) (fun _ hk => hk.2) (.slice Ao27 t320.length co27)) (fun _ hk => hk.2) (.int .i64 t323)) (fun _ h_ => h_.1)) (fun _ h_ => h_.1)))) (by decide) hg); have n2_ := Aside0.mk (blk_grown (g := gb315) (o := .cells #[.slice Ao27 t320.length co27, .int .i64 t323] 26 (0, 0)) (by (with_reducible repeat (first | refine blk_drewN ?_ _ | refine blk_drew ?_ | refine blk_alloc ?_ _)); refine blk_put (cs := #[.slice Ao27 t320.length co27, .int .i64 x316001_2]) ?_ 1 _ rfl; (with_reducible repeat (first | refine blk_drewN ?_ _ | refine blk_drew ?_ | refine blk_alloc ?_ _)); refine blk_put (cs := #[.slice Ao22 x316000_2.length co22, .int .i64 x316001_2]) ?_ 0 _ rfl; (with_reducible repeat (first | refine blk_drewN ?_ _ | refine blk_drew ?_ | refine blk_alloc ?_ _)); refine blk_far ?_ NB315_325.out _; (with_reducible repeat (first | refine blk_drewN ?_ _ | refine blk_drew ?_ | refine blk_alloc ?_ _)); refine blk_far ?_ NB315_325.out _; (with_reducible repeat (first | refine blk_drewN ?_ _ | refine blk_drew ?_ | refine blk_alloc ?_ _)); exact BK315.out) hg (Kd.R_ne HO_9.out BK315.out (by decide))); have n3_ := Aside0.mk (blk_grown (g := gb316) (o := .cells #[u317000, .int .i64 x317001_2] 26 (0, 0)) (by (with_reducible repeat (first | refine blk_drewN ?_ _ | refine blk_drew ?_ | refine blk_alloc ?_ _)); refine blk_far ?_ NB316_315.out _; (with_reducible repeat (first | refine blk_drewN ?_ _ | refine blk_drew ?_ | refine blk_alloc ?_ _)); refine blk_far ?_ NB316_315.out _; (with_reducible repeat (first | refine blk_drewN ?_ _ | refine blk_drew ?_ | refine blk_alloc ?_ _)); refine blk_far ?_ NB316_325.out _; (with_reducible repeat (first | refine blk_drewN ?_ _ | refine blk_drew ?_ | refine blk_alloc ?_ _)); refine blk_far ?_ NB316_325.out _; (with_reducible repeat (first | refine blk_drewN ?_ _ | refine blk_drew ?_ | refine blk_alloc ?_ _)); exact BK316.out) hg (Kd.R_ne HO_9.out BK316.out (by decide))); have n4_ := Aside0.mk (Kd.R_over' (by (with_reducible repeat (first | apply Kd.R_alloc | apply Kd.R_drewN | apply Kd.R_drew)); exact (Kd.R_mono (Kd.R_mono (Kd.R_far (p := ⟨gb315, 1, none⟩) (Kd.R_far (p := ⟨gb315, 0, none⟩) (Kd.R_far (p := ⟨gb325, 1, none⟩) (Kd.R_far (p := ⟨gb325, 0, none⟩) (Kd.R_types (Kd.R_types HO322.out BK325.out (by decide)) BK315.out (by decide)) (fun _ hk => hk.1.2) (.slice Ao27 t320.length co27)) (fun _ hk => hk.1.2) (.int .i64 t323)) (fun _ hk => hk.2) (.slice Ao27 t320.length co27)) (fun _ hk => hk.2) (.int .i64 t323)) (fun _ h_ => h_.1)) (fun _ h_ => h_.1))) (Kd.R_typed (by (with_reducible repeat (first | apply Kd.R_alloc | apply Kd.R_drewN | apply Kd.R_drew)); exact (Kd.R_mono (Kd.R_mono (Kd.R_far (p := ⟨gb315, 1, none⟩) (Kd.R_far (p := ⟨gb315, 0, none⟩) (Kd.R_far (p := ⟨gb325, 1, none⟩) (Kd.R_far (p := ⟨gb325, 0, none⟩) (Kd.R_types (Kd.R_types HO_9.out BK325.out (by decide)) BK315.out (by decide)) (fun _ hk => hk.1.2) (.slice Ao27 t320.length co27)) (fun _ hk => hk.1.2) (.int .i64 t323)) (fun _ hk => hk.2) (.slice Ao27 t320.length co27)) (fun _ hk => hk.2) (.int .i64 t323)) (fun _ h_ => h_.1)) (fun _ h_ => h_.1)))) (by decide) hg); have n5_ := Aside0.mk (blk_grown (g := gb325) (o := .cells #[.slice Ao27 t320.length co27, .int .i64 t323] 26 (0, 0)) (by (with_reducible repeat (first | refine blk_drewN ?_ _ | refine blk_drew ?_ | refine blk_alloc ?_ _)); refine blk_far ?_ NB325_315.out _; (with_reducible repeat (first | refine blk_drewN ?_ _ | refine blk_drew ?_ | refine blk_alloc ?_ _)); refine blk_far ?_ NB325_315.out _; (with_reducible repeat (first | refine blk_drewN ?_ _ | refine blk_drew ?_ | refine blk_alloc ?_ _)); refine blk_put (cs := #[.slice Ao27 t320.length co27, .int .i64 0]) ?_ 1 _ rfl; (with_reducible repeat (first | refine blk_drewN ?_ _ | refine blk_drew ?_ | refine blk_alloc ?_ _)); refine blk_put (cs := #[.slice none 0 0, .int .i64 0]) ?_ 0 _ rfl; (with_reducible repeat (first | refine blk_drewN ?_ _ | refine blk_drew ?_ | refine blk_alloc ?_ _)); exact BK325.out) hg (Kd.R_ne HO_9.out BK325.out (by decide))); have n6_ := Aside0.mk (hb); have n7_ := Aside0.mk (ho); clear HO_316000; clear HO_317000; clear BK315; clear BK316; clear HO322; clear BK325; clear HB; clear HO_9; have HO_316000 := n0_; have HO_317000 := n1_; have BK315 := n2_; have BK316 := n3_; have HO322 := n4_; have BK325 := n5_; have HB := n6_; have HO328 := n7_; clear n0_ n1_ n2_ n3_ n4_ n5_ n6_ n7_; clear ho hb hg hat))
                          go_roundg k2
                          case measure => have := HJ3.out; have := HK2.out; omega
                          case rel => exact ⟨(y326), (wrap64 (x10_2 + 1)), (t320), (t323), (x317000_2), (x317001_2), (.slice Ao27 t320.length co27), (u317000), (by first | rfl | (simp; done) | (simp [*]; done)), H', ⟨by have := HJ3.out; have := HK2.out; omega⟩, ⟨by (with_reducible repeat (first | apply Kd.R_alloc | apply Kd.R_drewN | apply Kd.R_drew)); exact HO328.out⟩, ⟨by (with_reducible repeat (first | apply Kd.R_alloc | apply Kd.R_drewN | apply Kd.R_drew)); exact Kd.R_mono HO322.out (fun _ hk => hk.2)⟩, ⟨by (with_reducible repeat (first | apply Kd.R_alloc | apply Kd.R_drewN | apply Kd.R_drew)); exact Kd.R_mono HO_317000.out (fun _ hk => hk.1)⟩, ⟨by (with_reducible repeat (first | refine blk_drewN ?_ _ | refine blk_drew ?_ | refine blk_alloc ?_ _)); exact BK315.out⟩, ⟨by (with_reducible repeat (first | refine blk_drewN ?_ _ | refine blk_drew ?_ | refine blk_alloc ?_ _)); exact BK316.out⟩, ⟨by repeat (first | (with_reducible first | exact HB.out | apply below_alloc | apply pw_below_drewN | apply below_drew1 | refine below_set ?_ GE315.out | refine below_set ?_ GE316.out | refine below_set ?_ GE325.out) | exact HB.out)⟩⟩
                        · rw [if_neg c21] at H
                          have c21b0 : (x10_2 == (Int.tmod (Go.bits .and .i64 a1 65535) (l0.length : Int))) = false := beq_eq_false_iff_ne.mpr c21
                          have c21b1 : (x10_2 != (Int.tmod (Go.bits .and .i64 a1 65535) (l0.length : Int))) = true := bne_iff_ne.mpr c21
                          replace H := Option.bind_eq_some_iff.mp H
                          obtain ⟨⟨t330, t333, t334⟩, A360, H⟩ := H
                          replace H : (if t334 = 0 then (heronrylaw21_SchedDrops.l0 k2 l0 t314 (Int.tmod (Go.bits .and .i64 a1 65535) (l0.length : Int)) y326 (wrap64 (x10_2 + 1)) t320 t323 t330 t333) else (some false)) = some r := H
                          have A36 := Aside0.mk A360
                          clear A360
                          by_cases c37 : t334 = 0
                          · rw [if_pos c37] at H
                            have c37b0 : (t334 == 0) = true := beq_iff_eq.mpr c37
                            have c37b1 : (t334 != 0) = false := bne_eq_false_iff_eq.mpr c37
                            clear c37
                            have H' := Aside0.mk H
                            clear H
                            have p317 : 0 ≤ (x10_2 : Int) := of_decide_eq_true (by first | (with_reducible assumption) | assumption)
                            have q317 : x10_2 < (l0.length : Int) := of_decide_eq_true (by first | (with_reducible assumption) | assumption)
                            obtain ⟨ad317, e317, hx317_0⟩ := Kd.at_int HR0.out x10_2 p317 q317
                            cases e317
                            replace hx317_0 := (HB.out.cell (World.block_lt_of_cell? w _ hx317_0)).trans hx317_0
                            replace p317 := eq_true p317
                            replace q317 := eq_true q317
                            try go_wp2_with (first | ((with_reducible refine gate_callee (f := 9) rfl ?_); refine goesL_ (some 52) rfl rfl Try.func9 (by kernel_rfl) rfl #[.int .u64 (rd l0 x10_2)] rfl (by (try simp only [List.map_toArray, List.map_cons, List.map_nil]); first | done | rfl | (simp only [List.length_drop, List.length_take]; rfl)) ?_; (with_reducible refine (float_Class.calls (rd l0 x10_2) t318 _ A16.out).mono ?_); rintro e w' ⟨rfl, ⟨nd, rfl⟩⟩; refine ⟨_, rfl, ?_⟩; (try (rw [drewN_self wr]; generalize hq_ : World.drewN wr _ = wr; have n0_ : Aside0 (Kd.R k44 44 wr w.heap.size (fun k_ => some k_ ≠ (u317000 : Value).ownBlock) u316000 x316000_2) := ⟨by rw [← hq_]; exact (by (with_reducible repeat (first | apply Kd.R_alloc | apply Kd.R_drewN | apply Kd.R_drew)); exact HO_316000.out)⟩; have n1_ : Aside0 (Kd.R k44 44 wr w.heap.size (fun k_ => some k_ ≠ (u316000 : Value).ownBlock) u317000 x317000_2) := ⟨by rw [← hq_]; exact (by (with_reducible repeat (first | apply Kd.R_alloc | apply Kd.R_drewN | apply Kd.R_drew)); exact HO_317000.out)⟩; have n2_ : Aside0 (Kd.R (Kd.int .i64) 3 wr w.heap.size (fun _ => True) u9 x9_2) := ⟨by rw [← hq_]; exact (by (with_reducible repeat (first | apply Kd.R_alloc | apply Kd.R_drewN | apply Kd.R_drew)); exact HO_9.out)⟩; have n3_ : Aside0 (wr.heap[gb315]? = some (.cells #[u316000, .int .i64 x316001_2] 26 (0, 0))) := ⟨by rw [← hq_]; exact (by (with_reducible repeat (first | refine blk_drewN ?_ _ | refine blk_drew ?_ | refine blk_alloc ?_ _)); exact BK315.out)⟩; have n4_ : Aside0 (wr.heap[gb316]? = some (.cells #[u317000, .int .i64 x317001_2] 26 (0, 0))) := ⟨by rw [← hq_]; exact (by (with_reducible repeat (first | refine blk_drewN ?_ _ | refine blk_drew ?_ | refine blk_alloc ?_ _)); exact BK316.out)⟩; have n5_ : Aside0 (Below w.heap.size w wr) := ⟨by rw [← hq_]; exact (by repeat (first | (with_reducible first | exact HB.out | apply below_alloc | apply pw_below_drewN | apply below_drew1 | refine below_set ?_ GE315.out | refine below_set ?_ GE316.out) | exact HB.out))⟩; clear HO_316000 HO_317000 HO_9 BK315 BK316 HB hq_; have HO_316000 := n0_; have HO_317000 := n1_; have HO_9 := n2_; have BK315 := n3_; have BK316 := n4_; have HB := n5_; clear n0_ n1_ n2_ n3_ n4_ n5_)); obtain ⟨Ao38, co38, eo38⟩ := Kd.R_slice HO_316000.out; subst eo38))
                            have n0_ := Aside0.mk (Kd.R_drew HO_9.out)
                            have n1_ := Aside0.mk (Kd.R_drew HO_316000.out)
                            have n2_ := Aside0.mk (Kd.R_drew HO_317000.out)
                            have n3_ := Aside0.mk (blk_drew BK315.out)
                            have n4_ := Aside0.mk (blk_drew BK316.out)
                            have n5_ := Aside0.mk (below_drew1 HB.out)
                            clear HO_9
                            clear HO_316000
                            clear HO_317000
                            clear BK315
                            clear BK316
                            clear HB
                            have HO_9 := n0_
                            have HO_316000 := n1_
                            have HO_317000 := n2_
                            have BK315 := n3_
                            have BK316 := n4_
                            have HB := n5_
                            clear n0_ n1_ n2_ n3_ n4_ n5_
                            have p319 : 0 ≤ (x10_2 : Int) := of_decide_eq_true (by first | (with_reducible assumption) | assumption)
                            have q319 : x10_2 < (l0.length : Int) := of_decide_eq_true (by first | (with_reducible assumption) | assumption)
                            obtain ⟨ad319, e319, hx319_0⟩ := Kd.at_int HR0.out x10_2 p319 q319
                            have hw319_0 := hx319_0
                            obtain rfl : ad317 = ad319 := (by injection e319)
                            replace hx319_0 := (HB.out.cell (World.block_lt_of_cell? w _ hx319_0)).trans hx319_0
                            replace p319 := eq_true p319
                            replace q319 := eq_true q319
                            refine start_ (n := 13) (S := fun w' => w'.cell? ⟨gb315, 0, none⟩ = some (.slice Ao38 x316000_2.length co38) ∧ w'.cell? ⟨gb315, 1, none⟩ = some (.int .i64 x316001_2) ∧ w'.cell? (ad317.add (x10_2).toNat) = some (.int .u64 (rd l0 x10_2))) (ds := []) #[false, false, false, false, false, false, false, false, false, false, false, false, false] (by kernel_rfl) rfl rfl ⟨(blk_cell BK315.out 0).trans rfl, (blk_cell BK315.out 1).trans rfl, ((HB.out.cell (World.block_lt_of_cell? w _ hw319_0)).trans hw319_0)⟩ (fun hHeld => ?_); refine with_tabW heronrylaw21_SchedDrops.tab13 heronrylaw21_SchedDrops.bits13 (fun HT_ HW_ => ?_)
                            generalize wr.drew = w39 at HO_9 HO_316000 HO_317000 BK315 BK316 HB hx319_0 hHeld ⊢
                            refine pure_ (i := 1) (N := some 57) (v := ?_) (a' := ?_) #[false, true, false, false, false, false, false, false, false, false, false, false, false] rfl rfl (any_of HT_.out (by kernel_rfl)) (fun _ _ _ h => h) (Or.inl ⟨by rfl, ?_⟩) ?_ ?_
                            rotate_left
                            · intro w'
                              go_simp
                              with_reducible rfl
                            rotate_left
                            · simp only [Act.put, List.setIfInBounds_toArray, List.set_cons_zero, List.set_cons_succ, i64_w, i32_w]
                              rfl
                            refine pure_ (i := 2) (N := some 58) (v := ?_) (a' := ?_) #[false, true, true, false, false, false, false, false, false, false, false, false, false] rfl rfl (any_of HT_.out (by kernel_rfl)) (fun _ _ _ h => h) (Or.inl ⟨by rfl, ?_⟩) ?_ ?_
                            rotate_left
                            · intro w'
                              go_simp
                              with_reducible rfl
                            rotate_left
                            · simp only [Act.put, List.setIfInBounds_toArray, List.set_cons_zero, List.set_cons_succ, i64_w, i32_w]
                              rfl
                            refine pure_ (i := 3) (N := some 59) (v := ?_) (a' := ?_) #[false, true, true, true, false, false, false, false, false, false, false, false, false] rfl rfl (any_of HT_.out (by kernel_rfl)) (fun _ _ _ h => h) (Or.inl ⟨by rfl, ?_⟩) ?_ ?_
                            rotate_left
                            · intro w'
                              go_simp
                              with_reducible rfl
                            rotate_left
                            · simp only [Act.put, List.setIfInBounds_toArray, List.set_cons_zero, List.set_cons_succ, i64_w, i32_w]
                              rfl
                            refine pure_ (i := 4) (N := some 60) (v := ?_) (a' := ?_) #[false, true, true, true, true, false, false, false, false, false, false, false, false] rfl rfl (any_of HT_.out (by kernel_rfl)) (fun _ _ _ h => h) (Or.inl ⟨by rfl, ?_⟩) ?_ ?_
                            rotate_left
                            · intro w'
                              go_simp
                              with_reducible rfl
                            rotate_left
                            · simp only [Act.put, List.setIfInBounds_toArray, List.set_cons_zero, List.set_cons_succ, i64_w, i32_w]
                              rfl
                            refine take_ (i := 0) (N := some 56) (v := ?_) (a' := ?_) #[true, true, true, true, true, false, false, false, false, false, false, false, false] rfl rfl (take_ofW HT_.out HW_.out (by kernel_rfl)) (fun _ _ _ h => h) (Or.inl ⟨by rfl, ?_⟩) hHeld ?_ ?_
                            rotate_left
                            · rintro w' ⟨s0, s1, s2⟩
                              go_simp
                              with_reducible rfl
                            rotate_left
                            · simp only [Act.put, List.setIfInBounds_toArray, List.set_cons_zero, List.set_cons_succ, i64_w, i32_w]
                              rfl
                            refine take_ (i := 5) (N := some 61) (v := ?_) (a' := ?_) #[true, true, true, true, true, true, false, false, false, false, false, false, false] rfl rfl (take_ofW HT_.out HW_.out (by kernel_rfl)) (fun _ _ _ h => h) (Or.inl ⟨by rfl, ?_⟩) hHeld ?_ ?_
                            rotate_left
                            · rintro w' ⟨s0, s1, s2⟩
                              go_simp
                              with_reducible rfl
                            rotate_left
                            · simp only [Act.put, List.setIfInBounds_toArray, List.set_cons_zero, List.set_cons_succ, i64_w, i32_w]
                              rfl
                            refine join_ (σ := Value × Nat) 2 #[true, true, true, true, true, true, true, true, true, true, true, false, false] (fun s_ => [(62, .tuple #[.agg #[s_.1, .int .i64 t323], .int .i64 t324]), (11, .pointer (some ⟨s_.2, 0, none⟩)), (55, .tuple #[.agg #[s_.1, .int .i64 t323], .int .i64 t324]), (63, .agg #[s_.1, .int .i64 t323]), (64, .int .i64 t324)]) (fun s_ w' => (w'.cell? ⟨gb315, 0, none⟩ = some (.slice Ao38 x316000_2.length co38) ∧ w'.cell? ⟨gb315, 1, none⟩ = some (.int .i64 x316001_2) ∧ w'.cell? (ad317.add (x10_2).toNat) = some (.int .u64 (rd l0 x10_2))) ∧ (Kd.R k44 44 w' w.heap.size (fun k_ => some k_ ≠ (.slice Ao38 x316000_2.length co38 : Value).ownBlock ∧ some k_ ≠ (u317000 : Value).ownBlock) s_.1 t320) ∧ (Kd.R k44 44 w' w.heap.size (fun k_ => some k_ ≠ (s_.1 : Value).ownBlock ∧ some k_ ≠ (u317000 : Value).ownBlock) (.slice Ao38 x316000_2.length co38) x316000_2) ∧ (Kd.R k44 44 w' w.heap.size (fun k_ => some k_ ≠ (s_.1 : Value).ownBlock ∧ some k_ ≠ (.slice Ao38 x316000_2.length co38 : Value).ownBlock) u317000 x317000_2) ∧ (Kd.R (Kd.int .i64) 3 w' w.heap.size (fun _ => True) u9 x9_2) ∧ (w'.heap[gb315]? = some (.cells #[.slice Ao38 x316000_2.length co38, .int .i64 x316001_2] 26 (0, 0))) ∧ (w'.heap[gb316]? = some (.cells #[u317000, .int .i64 x317001_2] 26 (0, 0))) ∧ (w'.heap[s_.2]? = some (.cells #[.slice none 0 0, .int .i64 0] 26 (0, 0))) ∧ (w.heap.size ≤ s_.2) ∧ (w.heap.size ≤ s_.2) ∧ (gb315 ≠ s_.2) ∧ (s_.2 ≠ gb315) ∧ (gb316 ≠ s_.2) ∧ (s_.2 ≠ gb316) ∧ (Below w.heap.size w w')) ?_ ?_
                            rotate_left
                            · intro hCont
                              refine two_ (i := 6) (j := 10) (Ni := some 62) (Nj := some 11) #[true, true, true, true, true, true, true, false, false, false, false, false, false] #[true, true, true, true, true, true, false, false, false, false, true, false, false] rfl rfl rfl rfl (two_of HT_.out (by kernel_rfl)) (by decide) (by decide) (fun K hK => ?_) (fun K hK => ?_)
                              · skip
                                refine goes_ Try.func10 (by kernel_rfl) rfl #[.agg #[.slice Ao38 x316000_2.length co38, .int .i64 x316001_2], .int .i64 x10_2, .int .u64 (rd l0 x10_2)] (by rfl) rfl rfl (by (try simp only [List.map_toArray, List.map_cons, List.map_nil]); first | done | rfl | (simp only [List.length_drop, List.length_take]; rfl)) ?_
                                with_reducible refine (sched_Add.calls k2 _ _ x316000_2 x316001_2 x10_2 (rd l0 x10_2) t320 t323 t324 _ ?side1 ?side2 A18.out).mono ?_
                                (case side1 => repeat (first | exact (Kd.R_reads' HO_316000.out).2.2 | (with_reducible refine Kd.C_alloc ?_ _) | (with_reducible refine Kd.C_drewN ?_ _) | (with_reducible refine Kd.C_drew ?_)))
                                (case side2 => exact (Kd.R_reads' HO_316000.out).2.1)
                                rintro e w40 ⟨v321, rfl, ho0, hb⟩
                                refine ⟨_, rfl, ?_⟩
                                have n0_ := Aside0.mk (Kd.R_below (by (with_reducible repeat (first | apply Kd.R_alloc | apply Kd.R_drewN | apply Kd.R_drew)); exact HO_9.out) hb)
                                have n1_ := Aside0.mk (Kd.R_elder' (by (with_reducible repeat (first | apply Kd.R_alloc | apply Kd.R_drewN | apply Kd.R_drew)); exact HO_316000.out) (Kd.R_base ho0) hb)
                                have n2_ := Aside0.mk (Kd.R_elder' (by (with_reducible repeat (first | apply Kd.R_alloc | apply Kd.R_drewN | apply Kd.R_drew)); exact HO_317000.out) (Kd.R_base ho0) hb)
                                have n3_ := Aside0.mk (Kd.R_lower (Kd.R_new' (Kd.R_new' ho0 (Kd.R_lt (by (with_reducible repeat (first | apply Kd.R_alloc | apply Kd.R_drewN | apply Kd.R_drew)); exact HO_316000.out))) (Kd.R_lt (by (with_reducible repeat (first | apply Kd.R_alloc | apply Kd.R_drewN | apply Kd.R_drew)); exact HO_317000.out))) (below_size (by repeat (first | (with_reducible first | exact HB.out | apply below_alloc | apply pw_below_drewN | apply below_drew1 | refine below_set ?_ GE315.out | refine below_set ?_ GE316.out) | exact HB.out))))
                                have n4_ := Aside0.mk (blk_below (g := gb315) (o := .cells #[.slice Ao38 x316000_2.length co38, .int .i64 x316001_2] 26 (0, 0)) (by (with_reducible repeat (first | refine blk_drewN ?_ _ | refine blk_drew ?_ | refine blk_alloc ?_ _)); exact BK315.out) hb)
                                have n5_ := Aside0.mk (blk_below (g := gb316) (o := .cells #[u317000, .int .i64 x317001_2] 26 (0, 0)) (by (with_reducible repeat (first | refine blk_drewN ?_ _ | refine blk_drew ?_ | refine blk_alloc ?_ _)); exact BK316.out) hb)
                                have n6_ := Aside0.mk (below_step (by repeat (first | (with_reducible first | exact HB.out | apply below_alloc | apply pw_below_drewN | apply below_drew1 | refine below_set ?_ GE315.out | refine below_set ?_ GE316.out) | exact HB.out)) hb)
                                clear HO_9
                                clear HO_316000
                                clear HO_317000
                                clear BK315
                                clear BK316
                                clear HB
                                have HO_9 := n0_
                                have HO_316000 := n1_
                                have HO_317000 := n2_
                                have HO322 := n3_
                                have BK315 := n4_
                                have BK316 := n5_
                                have HB := n6_
                                clear n0_ n1_ n2_ n3_ n4_ n5_ n6_
                                (try clear hb)
                                (try clear hb2)
                                (try clear hk)
                                (try clear hi)
                                (try clear ho0)
                                refine hK.out _ _ ⟨(blk_cell BK315.out 0).trans rfl, (blk_cell BK315.out 1).trans rfl, ((HB.out.cell (World.block_lt_of_cell? w _ hw319_0)).trans hw319_0)⟩ (fun hHeld => ?_)
                                clear hK K
                                refine norm_ (a' := ?_) ?_ ?_
                                rotate_left
                                · show Act.put _ (some 62) _ = _
                                  simp only [Act.put, List.setIfInBounds_toArray, List.set_cons_zero, List.set_cons_succ, i64_w, i32_w]
                                  rfl
                                refine pure_ (i := 7) (N := some 55) (v := ?_) (a' := ?_) #[true, true, true, true, true, true, true, true, false, false, false, false, false] rfl rfl (any_of HT_.out (by kernel_rfl)) (fun _ _ _ h => h) (Or.inl ⟨by rfl, ?_⟩) ?_ ?_
                                rotate_left
                                · intro w'
                                  go_simp
                                  with_reducible rfl
                                rotate_left
                                · simp only [Act.put, List.setIfInBounds_toArray, List.set_cons_zero, List.set_cons_succ, i64_w, i32_w]
                                  rfl
                                refine pure_ (i := 8) (N := some 63) (v := ?_) (a' := ?_) #[true, true, true, true, true, true, true, true, true, false, false, false, false] rfl rfl (any_of HT_.out (by kernel_rfl)) (fun _ _ _ h => h) (Or.inl ⟨by rfl, ?_⟩) ?_ ?_
                                rotate_left
                                · intro w'
                                  go_simp
                                  with_reducible rfl
                                rotate_left
                                · simp only [Act.put, List.setIfInBounds_toArray, List.set_cons_zero, List.set_cons_succ, i64_w, i32_w]
                                  rfl
                                refine pure_ (i := 9) (N := some 64) (v := ?_) (a' := ?_) #[true, true, true, true, true, true, true, true, true, true, false, false, false] rfl rfl (any_of HT_.out (by kernel_rfl)) (fun _ _ _ h => h) (Or.inl ⟨by rfl, ?_⟩) ?_ ?_
                                rotate_left
                                · intro w'
                                  go_simp
                                  with_reducible rfl
                                rotate_left
                                · simp only [Act.put, List.setIfInBounds_toArray, List.set_cons_zero, List.set_cons_succ, i64_w, i32_w]
                                  rfl
                                refine one_ (i := 10) (N := some 11) #[true, true, true, true, true, true, true, true, true, true, true, false, false] rfl rfl (one_of HT_.out (by kernel_rfl)) (by decide) (fun K hK => ?_)
                                refine box_step ?hg (N := 11) ?hd (cs := #[.slice none 0 0, .int .i64 0]) (t := 26) ?hr ?_; (case hd => rfl); (case hg => rfl); (case hr => first | (go_simp; done) | (go_simp; rfl))
                                intro gb325 hg w41 hbox hb
                                have n0_ := Aside0.mk (Kd.R_below (by (with_reducible repeat (first | apply Kd.R_alloc | apply Kd.R_drewN | apply Kd.R_drew)); exact HO_9.out) hb)
                                have n1_ := Aside0.mk (Kd.R_below (by (with_reducible repeat (first | apply Kd.R_alloc | apply Kd.R_drewN | apply Kd.R_drew)); exact HO_316000.out) hb)
                                have n2_ := Aside0.mk (Kd.R_below (by (with_reducible repeat (first | apply Kd.R_alloc | apply Kd.R_drewN | apply Kd.R_drew)); exact HO_317000.out) hb)
                                have n3_ := Aside0.mk (Kd.R_below (by (with_reducible repeat (first | apply Kd.R_alloc | apply Kd.R_drewN | apply Kd.R_drew)); exact HO322.out) hb)
                                have n4_ := Aside0.mk (blk_below (g := gb315) (o := .cells #[.slice Ao38 x316000_2.length co38, .int .i64 x316001_2] 26 (0, 0)) (by (with_reducible repeat (first | refine blk_drewN ?_ _ | refine blk_drew ?_ | refine blk_alloc ?_ _)); exact BK315.out) hb)
                                have n5_ := Aside0.mk (blk_below (g := gb316) (o := .cells #[u317000, .int .i64 x317001_2] 26 (0, 0)) (by (with_reducible repeat (first | refine blk_drewN ?_ _ | refine blk_drew ?_ | refine blk_alloc ?_ _)); exact BK316.out) hb)
                                have n6_ := Aside0.mk (below_step (by repeat (first | (with_reducible first | exact HB.out | apply below_alloc | apply pw_below_drewN | apply below_drew1 | refine below_set ?_ GE315.out | refine below_set ?_ GE316.out) | exact HB.out)) hb)
                                have n7_ := Aside0.mk (hbox)
                                have n8_ := Aside0.mk ((by rw [hg]; exact (below_size (by repeat (first | (with_reducible first | exact HB.out | apply below_alloc | apply pw_below_drewN | apply below_drew1 | refine below_set ?_ GE315.out | refine below_set ?_ GE316.out) | exact HB.out))) : w.heap.size ≤ gb325))
                                have n9_ := Aside0.mk ((by rw [hg]; exact (below_size (by repeat (first | (with_reducible first | exact HB.out | apply below_alloc | apply pw_below_drewN | apply below_drew1 | refine below_set ?_ GE315.out | refine below_set ?_ GE316.out) | exact HB.out))) : w.heap.size ≤ gb325))
                                have n10_ := Aside0.mk ((by rw [hg]; exact Nat.ne_of_lt (blk_lt (g := gb315) (o := .cells #[.slice Ao38 x316000_2.length co38, .int .i64 x316001_2] 26 (0, 0)) (by (with_reducible repeat (first | refine blk_drewN ?_ _ | refine blk_drew ?_ | refine blk_alloc ?_ _)); exact BK315.out)) : gb315 ≠ gb325))
                                have n11_ := Aside0.mk ((by rw [hg]; exact Nat.ne_of_gt (blk_lt (g := gb315) (o := .cells #[.slice Ao38 x316000_2.length co38, .int .i64 x316001_2] 26 (0, 0)) (by (with_reducible repeat (first | refine blk_drewN ?_ _ | refine blk_drew ?_ | refine blk_alloc ?_ _)); exact BK315.out)) : gb325 ≠ gb315))
                                have n12_ := Aside0.mk ((by rw [hg]; exact Nat.ne_of_lt (blk_lt (g := gb316) (o := .cells #[u317000, .int .i64 x317001_2] 26 (0, 0)) (by (with_reducible repeat (first | refine blk_drewN ?_ _ | refine blk_drew ?_ | refine blk_alloc ?_ _)); exact BK316.out)) : gb316 ≠ gb325))
                                have n13_ := Aside0.mk ((by rw [hg]; exact Nat.ne_of_gt (blk_lt (g := gb316) (o := .cells #[u317000, .int .i64 x317001_2] 26 (0, 0)) (by (with_reducible repeat (first | refine blk_drewN ?_ _ | refine blk_drew ?_ | refine blk_alloc ?_ _)); exact BK316.out)) : gb325 ≠ gb316))
                                clear HO_9
                                clear HO_316000
                                clear HO_317000
                                clear HO322
                                clear BK315
                                clear BK316
                                clear HB
                                have HO_9 := n0_
                                have HO_316000 := n1_
                                have HO_317000 := n2_
                                have HO322 := n3_
                                have BK315 := n4_
                                have BK316 := n5_
                                have HB := n6_
                                have BK325 := n7_
                                have GW325 := n8_
                                have GE325 := n9_
                                have NB315_325 := n10_
                                have NB325_315 := n11_
                                have NB316_325 := n12_
                                have NB325_316 := n13_
                                clear n0_ n1_ n2_ n3_ n4_ n5_ n6_ n7_ n8_ n9_ n10_ n11_ n12_ n13_
                                clear hb hbox hg
                                refine hK.out _ _ ⟨(blk_cell BK315.out 0).trans rfl, (blk_cell BK315.out 1).trans rfl, ((HB.out.cell (World.block_lt_of_cell? w _ hw319_0)).trans hw319_0)⟩ (fun hHeld => ?_)
                                clear hK K
                                refine norm_ (a' := ?_) ?_ ?_
                                rotate_left
                                · show Act.put _ (some 11) _ = _
                                  simp only [Act.put, List.setIfInBounds_toArray, List.set_cons_zero, List.set_cons_succ, i64_w, i32_w]
                                  rfl
                                exact norm_ (by simp only [putAll, Act.put, List.setIfInBounds_toArray, List.set_cons_zero, List.set_cons_succ]) (hCont (v321, gb325) _ ⟨hHeld, (by (with_reducible repeat (first | apply Kd.R_alloc | apply Kd.R_drewN | apply Kd.R_drew)); exact Kd.R_mono HO322.out (fun _ hk => ⟨hk.1.2, hk.2⟩)), (by (with_reducible repeat (first | apply Kd.R_alloc | apply Kd.R_drewN | apply Kd.R_drew)); exact Kd.R_mono HO_316000.out (fun _ hk => ⟨hk.2, hk.1⟩)), (by (with_reducible repeat (first | apply Kd.R_alloc | apply Kd.R_drewN | apply Kd.R_drew)); exact Kd.R_mono HO_317000.out (fun _ hk => ⟨hk.2, hk.1⟩)), (by (with_reducible repeat (first | apply Kd.R_alloc | apply Kd.R_drewN | apply Kd.R_drew)); exact HO_9.out), (by (with_reducible repeat (first | refine blk_drewN ?_ _ | refine blk_drew ?_ | refine blk_alloc ?_ _)); exact BK315.out), (by (with_reducible repeat (first | refine blk_drewN ?_ _ | refine blk_drew ?_ | refine blk_alloc ?_ _)); exact BK316.out), (by (with_reducible repeat (first | refine blk_drewN ?_ _ | refine blk_drew ?_ | refine blk_alloc ?_ _)); exact BK325.out), GW325.out, GE325.out, NB315_325.out, NB325_315.out, NB316_325.out, NB325_316.out, (by repeat (first | (with_reducible first | exact HB.out | apply below_alloc | apply pw_below_drewN | apply below_drew1 | refine below_set ?_ GE315.out | refine below_set ?_ GE316.out | refine below_set ?_ GE325.out) | exact HB.out))⟩)
                              · skip
                                refine box_step ?hg (N := 11) ?hd (cs := #[.slice none 0 0, .int .i64 0]) (t := 26) ?hr ?_; (case hd => rfl); (case hg => rfl); (case hr => first | (go_simp; done) | (go_simp; rfl))
                                intro gb325 hg w40 hbox hb
                                have n0_ := Aside0.mk (Kd.R_below (by (with_reducible repeat (first | apply Kd.R_alloc | apply Kd.R_drewN | apply Kd.R_drew)); exact HO_9.out) hb)
                                have n1_ := Aside0.mk (Kd.R_below (by (with_reducible repeat (first | apply Kd.R_alloc | apply Kd.R_drewN | apply Kd.R_drew)); exact HO_316000.out) hb)
                                have n2_ := Aside0.mk (Kd.R_below (by (with_reducible repeat (first | apply Kd.R_alloc | apply Kd.R_drewN | apply Kd.R_drew)); exact HO_317000.out) hb)
                                have n3_ := Aside0.mk (blk_below (g := gb315) (o := .cells #[.slice Ao38 x316000_2.length co38, .int .i64 x316001_2] 26 (0, 0)) (by (with_reducible repeat (first | refine blk_drewN ?_ _ | refine blk_drew ?_ | refine blk_alloc ?_ _)); exact BK315.out) hb)
                                have n4_ := Aside0.mk (blk_below (g := gb316) (o := .cells #[u317000, .int .i64 x317001_2] 26 (0, 0)) (by (with_reducible repeat (first | refine blk_drewN ?_ _ | refine blk_drew ?_ | refine blk_alloc ?_ _)); exact BK316.out) hb)
                                have n5_ := Aside0.mk (below_step (by repeat (first | (with_reducible first | exact HB.out | apply below_alloc | apply pw_below_drewN | apply below_drew1 | refine below_set ?_ GE315.out | refine below_set ?_ GE316.out) | exact HB.out)) hb)
                                have n6_ := Aside0.mk (hbox)
                                have n7_ := Aside0.mk ((by rw [hg]; exact (below_size (by repeat (first | (with_reducible first | exact HB.out | apply below_alloc | apply pw_below_drewN | apply below_drew1 | refine below_set ?_ GE315.out | refine below_set ?_ GE316.out) | exact HB.out))) : w.heap.size ≤ gb325))
                                have n8_ := Aside0.mk ((by rw [hg]; exact (below_size (by repeat (first | (with_reducible first | exact HB.out | apply below_alloc | apply pw_below_drewN | apply below_drew1 | refine below_set ?_ GE315.out | refine below_set ?_ GE316.out) | exact HB.out))) : w.heap.size ≤ gb325))
                                have n9_ := Aside0.mk ((by rw [hg]; exact Nat.ne_of_lt (blk_lt (g := gb315) (o := .cells #[.slice Ao38 x316000_2.length co38, .int .i64 x316001_2] 26 (0, 0)) (by (with_reducible repeat (first | refine blk_drewN ?_ _ | refine blk_drew ?_ | refine blk_alloc ?_ _)); exact BK315.out)) : gb315 ≠ gb325))
                                have n10_ := Aside0.mk ((by rw [hg]; exact Nat.ne_of_gt (blk_lt (g := gb315) (o := .cells #[.slice Ao38 x316000_2.length co38, .int .i64 x316001_2] 26 (0, 0)) (by (with_reducible repeat (first | refine blk_drewN ?_ _ | refine blk_drew ?_ | refine blk_alloc ?_ _)); exact BK315.out)) : gb325 ≠ gb315))
                                have n11_ := Aside0.mk ((by rw [hg]; exact Nat.ne_of_lt (blk_lt (g := gb316) (o := .cells #[u317000, .int .i64 x317001_2] 26 (0, 0)) (by (with_reducible repeat (first | refine blk_drewN ?_ _ | refine blk_drew ?_ | refine blk_alloc ?_ _)); exact BK316.out)) : gb316 ≠ gb325))
                                have n12_ := Aside0.mk ((by rw [hg]; exact Nat.ne_of_gt (blk_lt (g := gb316) (o := .cells #[u317000, .int .i64 x317001_2] 26 (0, 0)) (by (with_reducible repeat (first | refine blk_drewN ?_ _ | refine blk_drew ?_ | refine blk_alloc ?_ _)); exact BK316.out)) : gb325 ≠ gb316))
                                clear HO_9
                                clear HO_316000
                                clear HO_317000
                                clear BK315
                                clear BK316
                                clear HB
                                have HO_9 := n0_
                                have HO_316000 := n1_
                                have HO_317000 := n2_
                                have BK315 := n3_
                                have BK316 := n4_
                                have HB := n5_
                                have BK325 := n6_
                                have GW325 := n7_
                                have GE325 := n8_
                                have NB315_325 := n9_
                                have NB325_315 := n10_
                                have NB316_325 := n11_
                                have NB325_316 := n12_
                                clear n0_ n1_ n2_ n3_ n4_ n5_ n6_ n7_ n8_ n9_ n10_ n11_ n12_
                                clear hb hbox hg
                                refine hK.out _ _ ⟨(blk_cell BK315.out 0).trans rfl, (blk_cell BK315.out 1).trans rfl, ((HB.out.cell (World.block_lt_of_cell? w _ hw319_0)).trans hw319_0)⟩ (fun hHeld => ?_)
                                clear hK K
                                refine norm_ (a' := ?_) ?_ ?_
                                rotate_left
                                · show Act.put _ (some 11) _ = _
                                  simp only [Act.put, List.setIfInBounds_toArray, List.set_cons_zero, List.set_cons_succ, i64_w, i32_w]
                                  rfl
                                refine one_ (i := 6) (N := some 62) #[true, true, true, true, true, true, true, false, false, false, true, false, false] rfl rfl (one_of HT_.out (by kernel_rfl)) (by decide) (fun K hK => ?_)
                                refine goes_ Try.func10 (by kernel_rfl) rfl #[.agg #[.slice Ao38 x316000_2.length co38, .int .i64 x316001_2], .int .i64 x10_2, .int .u64 (rd l0 x10_2)] (by rfl) rfl rfl (by (try simp only [List.map_toArray, List.map_cons, List.map_nil]); first | done | rfl | (simp only [List.length_drop, List.length_take]; rfl)) ?_
                                with_reducible refine (sched_Add.calls k2 _ _ x316000_2 x316001_2 x10_2 (rd l0 x10_2) t320 t323 t324 _ ?side1 ?side2 A18.out).mono ?_
                                (case side1 => repeat (first | exact (Kd.R_reads' HO_316000.out).2.2 | (with_reducible refine Kd.C_alloc ?_ _) | (with_reducible refine Kd.C_drewN ?_ _) | (with_reducible refine Kd.C_drew ?_)))
                                (case side2 => exact (Kd.R_reads' HO_316000.out).2.1)
                                rintro e w41 ⟨v321, rfl, ho0, hb⟩
                                refine ⟨_, rfl, ?_⟩
                                have n0_ := Aside0.mk (Kd.R_below (by (with_reducible repeat (first | apply Kd.R_alloc | apply Kd.R_drewN | apply Kd.R_drew)); exact HO_9.out) hb)
                                have n1_ := Aside0.mk (Kd.R_elder' (by (with_reducible repeat (first | apply Kd.R_alloc | apply Kd.R_drewN | apply Kd.R_drew)); exact HO_316000.out) (Kd.R_base ho0) hb)
                                have n2_ := Aside0.mk (Kd.R_elder' (by (with_reducible repeat (first | apply Kd.R_alloc | apply Kd.R_drewN | apply Kd.R_drew)); exact HO_317000.out) (Kd.R_base ho0) hb)
                                have n3_ := Aside0.mk (Kd.R_lower (Kd.R_new' (Kd.R_new' ho0 (Kd.R_lt (by (with_reducible repeat (first | apply Kd.R_alloc | apply Kd.R_drewN | apply Kd.R_drew)); exact HO_316000.out))) (Kd.R_lt (by (with_reducible repeat (first | apply Kd.R_alloc | apply Kd.R_drewN | apply Kd.R_drew)); exact HO_317000.out))) (below_size (by repeat (first | (with_reducible first | exact HB.out | apply below_alloc | apply pw_below_drewN | apply below_drew1 | refine below_set ?_ GE315.out | refine below_set ?_ GE316.out | refine below_set ?_ GE325.out) | exact HB.out))))
                                have n4_ := Aside0.mk (blk_below (g := gb315) (o := .cells #[.slice Ao38 x316000_2.length co38, .int .i64 x316001_2] 26 (0, 0)) (by (with_reducible repeat (first | refine blk_drewN ?_ _ | refine blk_drew ?_ | refine blk_alloc ?_ _)); exact BK315.out) hb)
                                have n5_ := Aside0.mk (blk_below (g := gb316) (o := .cells #[u317000, .int .i64 x317001_2] 26 (0, 0)) (by (with_reducible repeat (first | refine blk_drewN ?_ _ | refine blk_drew ?_ | refine blk_alloc ?_ _)); exact BK316.out) hb)
                                have n6_ := Aside0.mk (blk_below (g := gb325) (o := .cells #[.slice none 0 0, .int .i64 0] 26 (0, 0)) (by (with_reducible repeat (first | refine blk_drewN ?_ _ | refine blk_drew ?_ | refine blk_alloc ?_ _)); exact BK325.out) hb)
                                have n7_ := Aside0.mk (below_step (by repeat (first | (with_reducible first | exact HB.out | apply below_alloc | apply pw_below_drewN | apply below_drew1 | refine below_set ?_ GE315.out | refine below_set ?_ GE316.out | refine below_set ?_ GE325.out) | exact HB.out)) hb)
                                clear HO_9
                                clear HO_316000
                                clear HO_317000
                                clear BK315
                                clear BK316
                                clear BK325
                                clear HB
                                have HO_9 := n0_
                                have HO_316000 := n1_
                                have HO_317000 := n2_
                                have HO322 := n3_
                                have BK315 := n4_
                                have BK316 := n5_
                                have BK325 := n6_
                                have HB := n7_
                                clear n0_ n1_ n2_ n3_ n4_ n5_ n6_ n7_
                                (try clear hb)
                                (try clear hb2)
                                (try clear hk)
                                (try clear hi)
                                (try clear ho0)
                                refine hK.out _ _ ⟨(blk_cell BK315.out 0).trans rfl, (blk_cell BK315.out 1).trans rfl, ((HB.out.cell (World.block_lt_of_cell? w _ hw319_0)).trans hw319_0)⟩ (fun hHeld => ?_)
                                clear hK K
                                refine norm_ (a' := ?_) ?_ ?_
                                rotate_left
                                · show Act.put _ (some 62) _ = _
                                  simp only [Act.put, List.setIfInBounds_toArray, List.set_cons_zero, List.set_cons_succ, i64_w, i32_w]
                                  rfl
                                refine pure_ (i := 7) (N := some 55) (v := ?_) (a' := ?_) #[true, true, true, true, true, true, true, true, false, false, true, false, false] rfl rfl (any_of HT_.out (by kernel_rfl)) (fun _ _ _ h => h) (Or.inl ⟨by rfl, ?_⟩) ?_ ?_
                                rotate_left
                                · intro w'
                                  go_simp
                                  with_reducible rfl
                                rotate_left
                                · simp only [Act.put, List.setIfInBounds_toArray, List.set_cons_zero, List.set_cons_succ, i64_w, i32_w]
                                  rfl
                                refine pure_ (i := 8) (N := some 63) (v := ?_) (a' := ?_) #[true, true, true, true, true, true, true, true, true, false, true, false, false] rfl rfl (any_of HT_.out (by kernel_rfl)) (fun _ _ _ h => h) (Or.inl ⟨by rfl, ?_⟩) ?_ ?_
                                rotate_left
                                · intro w'
                                  go_simp
                                  with_reducible rfl
                                rotate_left
                                · simp only [Act.put, List.setIfInBounds_toArray, List.set_cons_zero, List.set_cons_succ, i64_w, i32_w]
                                  rfl
                                refine pure_ (i := 9) (N := some 64) (v := ?_) (a' := ?_) #[true, true, true, true, true, true, true, true, true, true, true, false, false] rfl rfl (any_of HT_.out (by kernel_rfl)) (fun _ _ _ h => h) (Or.inl ⟨by rfl, ?_⟩) ?_ ?_
                                rotate_left
                                · intro w'
                                  go_simp
                                  with_reducible rfl
                                rotate_left
                                · simp only [Act.put, List.setIfInBounds_toArray, List.set_cons_zero, List.set_cons_succ, i64_w, i32_w]
                                  rfl
                                exact norm_ (by simp only [putAll, Act.put, List.setIfInBounds_toArray, List.set_cons_zero, List.set_cons_succ]) (hCont (v321, gb325) _ ⟨hHeld, (by (with_reducible repeat (first | apply Kd.R_alloc | apply Kd.R_drewN | apply Kd.R_drew)); exact Kd.R_mono HO322.out (fun _ hk => ⟨hk.1.2, hk.2⟩)), (by (with_reducible repeat (first | apply Kd.R_alloc | apply Kd.R_drewN | apply Kd.R_drew)); exact Kd.R_mono HO_316000.out (fun _ hk => ⟨hk.2, hk.1⟩)), (by (with_reducible repeat (first | apply Kd.R_alloc | apply Kd.R_drewN | apply Kd.R_drew)); exact Kd.R_mono HO_317000.out (fun _ hk => ⟨hk.2, hk.1⟩)), (by (with_reducible repeat (first | apply Kd.R_alloc | apply Kd.R_drewN | apply Kd.R_drew)); exact HO_9.out), (by (with_reducible repeat (first | refine blk_drewN ?_ _ | refine blk_drew ?_ | refine blk_alloc ?_ _)); exact BK315.out), (by (with_reducible repeat (first | refine blk_drewN ?_ _ | refine blk_drew ?_ | refine blk_alloc ?_ _)); exact BK316.out), (by (with_reducible repeat (first | refine blk_drewN ?_ _ | refine blk_drew ?_ | refine blk_alloc ?_ _)); exact BK325.out), GW325.out, GE325.out, NB315_325.out, NB325_315.out, NB316_325.out, NB325_316.out, (by repeat (first | (with_reducible first | exact HB.out | apply below_alloc | apply pw_below_drewN | apply below_drew1 | refine below_set ?_ GE315.out | refine below_set ?_ GE316.out | refine below_set ?_ GE325.out) | exact HB.out))⟩)
                            rintro ⟨v321, gb325⟩ w42 ⟨hS_, h0_, h1_, h2_, h3_, h4_, h5_, h6_, h7_, h8_, h9_, h10_, h11_, h12_, h13_⟩
                            have n0_ : Aside0 (Kd.R k44 44 w42 w.heap.size (fun k_ => some k_ ≠ (.slice Ao38 x316000_2.length co38 : Value).ownBlock ∧ some k_ ≠ (u317000 : Value).ownBlock) v321 t320) := ⟨h0_⟩
                            have n1_ : Aside0 (Kd.R k44 44 w42 w.heap.size (fun k_ => some k_ ≠ (v321 : Value).ownBlock ∧ some k_ ≠ (u317000 : Value).ownBlock) (.slice Ao38 x316000_2.length co38) x316000_2) := ⟨h1_⟩
                            have n2_ : Aside0 (Kd.R k44 44 w42 w.heap.size (fun k_ => some k_ ≠ (v321 : Value).ownBlock ∧ some k_ ≠ (.slice Ao38 x316000_2.length co38 : Value).ownBlock) u317000 x317000_2) := ⟨h2_⟩
                            have n3_ : Aside0 (Kd.R (Kd.int .i64) 3 w42 w.heap.size (fun _ => True) u9 x9_2) := ⟨h3_⟩
                            have n4_ : Aside0 (w42.heap[gb315]? = some (.cells #[.slice Ao38 x316000_2.length co38, .int .i64 x316001_2] 26 (0, 0))) := ⟨h4_⟩
                            have n5_ : Aside0 (w42.heap[gb316]? = some (.cells #[u317000, .int .i64 x317001_2] 26 (0, 0))) := ⟨h5_⟩
                            have n6_ : Aside0 (w42.heap[gb325]? = some (.cells #[.slice none 0 0, .int .i64 0] 26 (0, 0))) := ⟨h6_⟩
                            have n7_ : Aside0 (w.heap.size ≤ gb325) := ⟨h7_⟩
                            have n8_ : Aside0 (w.heap.size ≤ gb325) := ⟨h8_⟩
                            have n9_ : Aside0 (gb315 ≠ gb325) := ⟨h9_⟩
                            have n10_ : Aside0 (gb325 ≠ gb315) := ⟨h10_⟩
                            have n11_ : Aside0 (gb316 ≠ gb325) := ⟨h11_⟩
                            have n12_ : Aside0 (gb325 ≠ gb316) := ⟨h12_⟩
                            have n13_ : Aside0 (Below w.heap.size w w42) := ⟨h13_⟩
                            clear HO_9
                            clear HO_316000
                            clear HO_317000
                            clear BK315
                            clear BK316
                            clear HB
                            clear h0_ h1_ h2_ h3_ h4_ h5_ h6_ h7_ h8_ h9_ h10_ h11_ h12_ h13_
                            have HO322 := n0_
                            have HO_316000 := n1_
                            have HO_317000 := n2_
                            have HO_9 := n3_
                            have BK315 := n4_
                            have BK316 := n5_
                            have BK325 := n6_
                            have GW325 := n7_
                            have GE325 := n8_
                            have NB315_325 := n9_
                            have NB325_315 := n10_
                            have NB316_325 := n11_
                            have NB325_316 := n12_
                            have HB := n13_
                            clear n0_ n1_ n2_ n3_ n4_ n5_ n6_ n7_ n8_ n9_ n10_ n11_ n12_ n13_
                            have hHeld : w42.cell? ⟨gb315, 0, none⟩ = some (.slice Ao38 x316000_2.length co38) ∧ w42.cell? ⟨gb315, 1, none⟩ = some (.int .i64 x316001_2) ∧ w42.cell? (ad317.add (x10_2).toNat) = some (.int .u64 (rd l0 x10_2)) := hS_
                            obtain ⟨Ao43, co43, eo43⟩ := Kd.R_slice HO322.out
                            (first | subst eo43 | (injection eo43 with f1_ f2_ f3_; have f4_ := f1_.symm; have f5_ := f3_.symm; clear f1_ f2_ f3_; subst f4_; subst f5_))
                            refine norm_ (a' := ?_) ?_ ?_
                            rotate_left
                            · simp only [putAll, Act.put, List.setIfInBounds_toArray, List.set_cons_zero, List.set_cons_succ]
                              rfl
                            refine one_ (i := 11) (N := none) #[true, true, true, true, true, true, true, true, true, true, true, true, false] rfl rfl (one_of HT_.out (by kernel_rfl)) (by decide) (fun K hK => ?_)
                            have hs44 : w42.cell? ⟨gb325, 0, none⟩ = some (.slice none 0 0) := (blk_cell BK325.out 0).trans rfl
                            have hfs44 := blk_frozen BK325.out 0
                            have hns44_0 := NB315_325.out
                            have hns44_1 := NB316_325.out
                            have hms44_0 := NB325_315.out
                            have hms44_1 := NB325_316.out
                            have hs45 : w42.cell? ⟨gb325, 1, none⟩ = some (.int .i64 0) := (blk_cell BK325.out 1).trans rfl
                            have hfs45 := blk_frozen BK325.out 1
                            have hns45_0 := NB315_325.out
                            have hns45_1 := NB316_325.out
                            have hms45_0 := NB325_315.out
                            have hms45_1 := NB325_316.out
                            refine skip_ (w1 := ?_) (by rfl) rfl ?_ ?_
                            rotate_left
                            · go_simp
                              rfl
                            refine hK.out _ _ ⟨((cell_far (p := ⟨gb325, _, none⟩) NB315_325.out _).trans (((cell_far (p := ⟨gb325, _, none⟩) NB315_325.out _).trans (hHeld.1)))), ((cell_far (p := ⟨gb325, _, none⟩) NB315_325.out _).trans (((cell_far (p := ⟨gb325, _, none⟩) NB315_325.out _).trans (hHeld.2.1)))), ((cell_far (p := ⟨gb325, _, none⟩) (by first | exact Nat.ne_of_lt (Nat.lt_of_lt_of_le (by have := World.block_lt_of_cell? _ _ hw319_0; first | rwa [add_block] at this | exact this) GW325.out) | (rw [add_block]; exact Nat.ne_of_lt (Nat.lt_of_lt_of_le (by have := World.block_lt_of_cell? _ _ hw319_0; first | rwa [add_block] at this | exact this) GW325.out)) | (show (Addr.add _ _).block ≠ _; rw [add_block]; exact Nat.ne_of_lt (Nat.lt_of_lt_of_le (by have := World.block_lt_of_cell? _ _ hw319_0; first | rwa [add_block] at this | exact this) GW325.out)) | (dsimp only; exact Nat.ne_of_lt (Nat.lt_of_lt_of_le (by have := World.block_lt_of_cell? _ _ hw319_0; first | rwa [add_block] at this | exact this) GW325.out))) _).trans (((cell_far (p := ⟨gb325, _, none⟩) (by first | exact Nat.ne_of_lt (Nat.lt_of_lt_of_le (by have := World.block_lt_of_cell? _ _ hw319_0; first | rwa [add_block] at this | exact this) GW325.out) | (rw [add_block]; exact Nat.ne_of_lt (Nat.lt_of_lt_of_le (by have := World.block_lt_of_cell? _ _ hw319_0; first | rwa [add_block] at this | exact this) GW325.out)) | (show (Addr.add _ _).block ≠ _; rw [add_block]; exact Nat.ne_of_lt (Nat.lt_of_lt_of_le (by have := World.block_lt_of_cell? _ _ hw319_0; first | rwa [add_block] at this | exact this) GW325.out)) | (dsimp only; exact Nat.ne_of_lt (Nat.lt_of_lt_of_le (by have := World.block_lt_of_cell? _ _ hw319_0; first | rwa [add_block] at this | exact this) GW325.out))) _).trans (hHeld.2.2))))⟩ (fun hHeld => ?_)
                            clear hK K
                            refine pure_ (i := 12) (N := some 12) (v := ?_) (a' := ?_) #[true, true, true, true, true, true, true, true, true, true, true, true, true] rfl rfl (any_of HT_.out (by kernel_rfl)) (fun _ _ _ h => h) (Or.inl ⟨by rfl, ?_⟩) ?_ ?_
                            rotate_left
                            · intro w'
                              go_simp
                              with_reducible rfl
                            rotate_left
                            · simp only [Act.put, List.setIfInBounds_toArray, List.set_cons_zero, List.set_cons_succ, i64_w, i32_w]
                              rfl
                            refine done_ (done_of HT_.out (by kernel_rfl)) ?_
                            have hnb46 := NB325_315.out
                            have hnc46 := NB315_325.out
                            have hnb47 := NB325_316.out
                            have hnc47 := NB316_325.out
                            have hcz48_0 : w42.cell? ⟨gb325, 0, none⟩ = some (.slice none 0 0) := (blk_cell BK325.out 0).trans rfl
                            have hcz48_1 : w42.cell? ⟨gb325, 1, none⟩ = some (.int .i64 0) := (blk_cell BK325.out 1).trans rfl
                            have hfz48_0 := blk_frozen BK325.out 0
                            have hfz48_1 := blk_frozen BK325.out 1
                            have hnb49 := NB315_316.out
                            have hnc49 := NB316_315.out
                            have hcz50_0 : w42.cell? ⟨gb315, 0, none⟩ = some (.slice Ao38 x316000_2.length co38) := (blk_cell BK315.out 0).trans rfl
                            have hcz50_1 : w42.cell? ⟨gb315, 1, none⟩ = some (.int .i64 x316001_2) := (blk_cell BK315.out 1).trans rfl
                            have hfz50_0 := blk_frozen BK315.out 0
                            have hfz50_1 := blk_frozen BK315.out 1
                            try go_wp2_with (first | ((with_reducible refine gate_builtin (b := .append) (xs := #[.tmp 68, .tmp 70]) rfl ?_); (try (refine gate_guard (by rfl) ?_; dsimp only)); at_builtin; refine Kd.R_append (Kd.int .i64) (w0 := w) w.heap.size rfl (.tmp 68) (.tmp 70) 27 3 (.int .i64 0) 8 rfl Try.underlying27 info3 rfl (by decide) (by omega) u9 x9_2 x10_2 [.int .i64 x10_2] (fun _ => True) (fun _ => False) rfl (by first | (go_simp; done) | (go_simp; rfl)) ?aP (fun _ hk => hk.elim) ?aF ?aO ?aB ?aS ?aL ?_; (case aP => exact rfl); (case aB => exact (by repeat (first | (with_reducible first | exact HB.out | apply below_alloc | apply pw_below_drewN | apply below_drew1 | refine below_set ?_ GE315.out | refine below_set ?_ GE316.out | refine below_set ?_ GE325.out) | exact HB.out))); (case aF => exact (fun _ _ => trivial)); (case aO => exact (by (with_reducible repeat (first | apply Kd.R_alloc | apply Kd.R_drewN | apply Kd.R_drew)); exact Kd.R_mono (Kd.R_far (p := ⟨gb315, 1, none⟩) (Kd.R_far (p := ⟨gb315, 0, none⟩) (Kd.R_far (p := ⟨gb325, 1, none⟩) (Kd.R_far (p := ⟨gb325, 0, none⟩) (Kd.R_types (Kd.R_types HO_9.out BK325.out (by decide)) BK315.out (by decide)) (fun _ hk => hk.1.2) (.slice Ao43 t320.length co43)) (fun _ hk => hk.1.2) (.int .i64 t323)) (fun _ hk => hk.2) (.slice Ao43 t320.length co43)) (fun _ hk => hk.2) (.int .i64 t323)) (fun _ hk => trivial))); (case aS => exact (below_size (by repeat (first | (with_reducible first | exact HB.out | apply below_alloc | apply pw_below_drewN | apply below_drew1 | refine below_set ?_ GE315.out | refine below_set ?_ GE316.out | refine below_set ?_ GE325.out) | exact HB.out)))); (case aL => have := LMc20.out; omega); intro v327 w51 ho hb hg hat; rw [← Ny326.out] at ho; have n0_ := Aside0.mk (Kd.R_over' (by (with_reducible repeat (first | apply Kd.R_alloc | apply Kd.R_drewN | apply Kd.R_drew)); exact (Kd.R_mono (Kd.R_mono (Kd.R_far (p := ⟨gb315, 1, none⟩) (Kd.R_far (p := ⟨gb315, 0, none⟩) (Kd.R_far (p := ⟨gb325, 1, none⟩) (Kd.R_far (p := ⟨gb325, 0, none⟩) (Kd.R_types (Kd.R_types HO_316000.out BK325.out (by decide)) BK315.out (by decide)) (fun _ hk => hk.1.2) (.slice Ao43 t320.length co43)) (fun _ hk => hk.1.2) (.int .i64 t323)) (fun _ hk => hk.2) (.slice Ao43 t320.length co43)) (fun _ hk => hk.2) (.int .i64 t323)) (fun _ h_ => h_.1)) (fun _ h_ => h_.1))) (Kd.R_typed (by (with_reducible repeat (first | apply Kd.R_alloc | apply Kd.R_drewN | apply Kd.R_drew)); exact (Kd.R_mono (Kd.R_mono (Kd.R_far (p := ⟨gb315, 1, none⟩) (Kd.R_far (p := ⟨gb315, 0, none⟩) (Kd.R_far (p := ⟨gb325, 1, none⟩) (Kd.R_far (p := ⟨gb325, 0, none⟩) (Kd.R_types (Kd.R_types HO_9.out BK325.out (by decide)) BK315.out (by decide)) (fun _ hk => hk.1.2) (.slice Ao43 t320.length co43)) (fun _ hk => hk.1.2) (.int .i64 t323)) (fun _ hk => hk.2) (.slice Ao43 t320.length co43)) (fun _ hk => hk.2) (.int .i64 t323)) (fun _ h_ => h_.1)) (fun _ h_ => h_.1)))) (by decide) hg); have n1_ := Aside0.mk (Kd.R_over' (by (with_reducible repeat (first | apply Kd.R_alloc | apply Kd.R_drewN | apply Kd.R_drew)); exact (Kd.R_mono (Kd.R_mono (Kd.R_far (p := ⟨gb315, 1, none⟩) (Kd.R_far (p := ⟨gb315, 0, none⟩) (Kd.R_far (p := ⟨gb325, 1, none⟩) (Kd.R_far (p := ⟨gb325, 0, none⟩) (Kd.R_types (Kd.R_types HO_317000.out BK325.out (by decide)) BK315.out (by decide)) (fun _ hk => hk.1.2) (.slice Ao43 t320.length co43)) (fun _ hk => hk.1.2) (.int .i64 t323)) (fun _ hk => hk.2) (.slice Ao43 t320.length co43)) (fun _ hk => hk.2) (.int .i64 t323)) (fun _ h_ => h_.1)) (fun _ h_ => h_.1))) (Kd.R_typed (by (with_reducible repeat (first | apply Kd.R_alloc | apply Kd.R_drewN | apply Kd.R_drew)); exact (Kd.R_mono (Kd.R_mono (Kd.R_far (p := ⟨gb315, 1, none⟩) (Kd.R_far (p := ⟨gb315, 0, none⟩) (Kd.R_far (p := ⟨gb325, 1, none⟩) (Kd.R_far (p := ⟨gb325, 0, none⟩) (Kd.R_types (Kd.R_types HO_9.out BK325.out (by decide)) BK315.out (by decide)) (fun _ hk => hk.1.2) (.slice Ao43 t320.length co43)) (fun _ hk => hk.1.2) (.int .i64 t323)) (fun _ hk => hk.2) (.slice Ao43 t320.length co43)) (fun _ hk => hk.2) (.int .i64 t323)) (fun _ h_ => h_.1)) (fun _ h_ => h_.1)))) (by decide) hg); have n2_ := Aside0.mk (blk_grown (g := gb315) (o := .cells #[.slice Ao43 t320.length co43, .int .i64 t323] 26 (0, 0)) (by (with_reducible repeat (first | refine blk_drewN ?_ _ | refine blk_drew ?_ | refine blk_alloc ?_ _)); refine blk_put (cs := #[.slice Ao43 t320.length co43, .int .i64 x316001_2]) ?_ 1 _ rfl; (with_reducible repeat (first | refine blk_drewN ?_ _ | refine blk_drew ?_ | refine blk_alloc ?_ _)); refine blk_put (cs := #[.slice Ao38 x316000_2.length co38, .int .i64 x316001_2]) ?_ 0 _ rfl; (with_reducible repeat (first | refine blk_drewN ?_ _ | refine blk_drew ?_ | refine blk_alloc ?_ _)); refine blk_far ?_ NB315_325.out _; (with_reducible repeat (first | refine blk_drewN ?_ _ | refine blk_drew ?_ | refine blk_alloc ?_ _)); refine blk_far ?_ NB315_325.out _; (with_reducible repeat (first | refine blk_drewN ?_ _ | refine blk_drew ?_ | refine blk_alloc ?_ _)); exact BK315.out) hg (Kd.R_ne HO_9.out BK315.out (by decide))); have n3_ := Aside0.mk (blk_grown (g := gb316) (o := .cells #[u317000, .int .i64 x317001_2] 26 (0, 0)) (by (with_reducible repeat (first | refine blk_drewN ?_ _ | refine blk_drew ?_ | refine blk_alloc ?_ _)); refine blk_far ?_ NB316_315.out _; (with_reducible repeat (first | refine blk_drewN ?_ _ | refine blk_drew ?_ | refine blk_alloc ?_ _)); refine blk_far ?_ NB316_315.out _; (with_reducible repeat (first | refine blk_drewN ?_ _ | refine blk_drew ?_ | refine blk_alloc ?_ _)); refine blk_far ?_ NB316_325.out _; (with_reducible repeat (first | refine blk_drewN ?_ _ | refine blk_drew ?_ | refine blk_alloc ?_ _)); refine blk_far ?_ NB316_325.out _; (with_reducible repeat (first | refine blk_drewN ?_ _ | refine blk_drew ?_ | refine blk_alloc ?_ _)); exact BK316.out) hg (Kd.R_ne HO_9.out BK316.out (by decide))); have n4_ := Aside0.mk (Kd.R_over' (by (with_reducible repeat (first | apply Kd.R_alloc | apply Kd.R_drewN | apply Kd.R_drew)); exact (Kd.R_mono (Kd.R_mono (Kd.R_far (p := ⟨gb315, 1, none⟩) (Kd.R_far (p := ⟨gb315, 0, none⟩) (Kd.R_far (p := ⟨gb325, 1, none⟩) (Kd.R_far (p := ⟨gb325, 0, none⟩) (Kd.R_types (Kd.R_types HO322.out BK325.out (by decide)) BK315.out (by decide)) (fun _ hk => hk.1.2) (.slice Ao43 t320.length co43)) (fun _ hk => hk.1.2) (.int .i64 t323)) (fun _ hk => hk.2) (.slice Ao43 t320.length co43)) (fun _ hk => hk.2) (.int .i64 t323)) (fun _ h_ => h_.1)) (fun _ h_ => h_.1))) (Kd.R_typed (by (with_reducible repeat (first | apply Kd.R_alloc | apply Kd.R_drewN | apply Kd.R_drew)); exact (Kd.R_mono (Kd.R_mono (Kd.R_far (p := ⟨gb315, 1, none⟩) (Kd.R_far (p := ⟨gb315, 0, none⟩) (Kd.R_far (p := ⟨gb325, 1, none⟩) (Kd.R_far (p := ⟨gb325, 0, none⟩) (Kd.R_types (Kd.R_types HO_9.out BK325.out (by decide)) BK315.out (by decide)) (fun _ hk => hk.1.2) (.slice Ao43 t320.length co43)) (fun _ hk => hk.1.2) (.int .i64 t323)) (fun _ hk => hk.2) (.slice Ao43 t320.length co43)) (fun _ hk => hk.2) (.int .i64 t323)) (fun _ h_ => h_.1)) (fun _ h_ => h_.1)))) (by decide) hg); have n5_ := Aside0.mk (blk_grown (g := gb325) (o := .cells #[.slice Ao43 t320.length co43, .int .i64 t323] 26 (0, 0)) (by (with_reducible repeat (first | refine blk_drewN ?_ _ | refine blk_drew ?_ | refine blk_alloc ?_ _)); refine blk_far ?_ NB325_315.out _; (with_reducible repeat (first | refine blk_drewN ?_ _ | refine blk_drew ?_ | refine blk_alloc ?_ _)); refine blk_far ?_ NB325_315.out _; (with_reducible repeat (first | refine blk_drewN ?_ _ | refine blk_drew ?_ | refine blk_alloc ?_ _)); refine blk_put (cs := #[.slice Ao43 t320.length co43, .int .i64 0]) ?_ 1 _ rfl; (with_reducible repeat (first | refine blk_drewN ?_ _ | refine blk_drew ?_ | refine blk_alloc ?_ _)); refine blk_put (cs := #[.slice none 0 0, .int .i64 0]) ?_ 0 _ rfl; (with_reducible repeat (first | refine blk_drewN ?_ _ | refine blk_drew ?_ | refine blk_alloc ?_ _)); exact BK325.out) hg (Kd.R_ne HO_9.out BK325.out (by decide))); have n6_ := Aside0.mk (hb); have n7_ := Aside0.mk (ho); clear HO_316000; clear HO_317000; clear BK315; clear BK316; clear HO322; clear BK325; clear HB; clear HO_9; have HO_316000 := n0_; have HO_317000 := n1_; have BK315 := n2_; have BK316 := n3_; have HO322 := n4_; have BK325 := n5_; have HB := n6_; have HO328 := n7_; clear n0_ n1_ n2_ n3_ n4_ n5_ n6_ n7_; clear ho hb hg hat; obtain ⟨Ao52, co52, eo52⟩ := Kd.R_slice HO_317000.out; subst eo52))
                            have n0_ := Aside0.mk (Kd.R_drew HO_316000.out)
                            have n1_ := Aside0.mk (Kd.R_drew HO_317000.out)
                            have n2_ := Aside0.mk (Kd.R_drew HO322.out)
                            have n3_ := Aside0.mk (Kd.R_drew HO328.out)
                            have n4_ := Aside0.mk (blk_drew BK315.out)
                            have n5_ := Aside0.mk (blk_drew BK316.out)
                            have n6_ := Aside0.mk (blk_drew BK325.out)
                            have n7_ := Aside0.mk (below_drew1 HB.out)
                            clear HO_316000
                            clear HO_317000
                            clear HO322
                            clear HO328
                            clear BK315
                            clear BK316
                            clear BK325
                            clear HB
                            have HO_316000 := n0_
                            have HO_317000 := n1_
                            have HO322 := n2_
                            have HO328 := n3_
                            have BK315 := n4_
                            have BK316 := n5_
                            have BK325 := n6_
                            have HB := n7_
                            clear n0_ n1_ n2_ n3_ n4_ n5_ n6_ n7_
                            have p329 : 0 ≤ (x10_2 : Int) := of_decide_eq_true (by first | (with_reducible assumption) | assumption)
                            have q329 : x10_2 < (l0.length : Int) := of_decide_eq_true (by first | (with_reducible assumption) | assumption)
                            obtain ⟨ad329, e329, hx329_0⟩ := Kd.at_int HR0.out x10_2 p329 q329
                            have hw329_0 := hx329_0
                            obtain rfl : ad317 = ad329 := (by injection e329)
                            replace hx329_0 := (HB.out.cell (World.block_lt_of_cell? w _ hx329_0)).trans hx329_0
                            replace p329 := eq_true p329
                            replace q329 := eq_true q329
                            refine start_ (n := 13) (S := fun w' => w'.cell? ⟨gb316, 0, none⟩ = some (.slice Ao52 x317000_2.length co52) ∧ w'.cell? ⟨gb316, 1, none⟩ = some (.int .i64 x317001_2) ∧ w'.cell? (ad317.add (x10_2).toNat) = some (.int .u64 (rd l0 x10_2))) (ds := []) #[false, false, false, false, false, false, false, false, false, false, false, false, false] (by kernel_rfl) rfl rfl ⟨(blk_cell BK316.out 0).trans rfl, (blk_cell BK316.out 1).trans rfl, ((HB.out.cell (World.block_lt_of_cell? w _ hw329_0)).trans hw329_0)⟩ (fun hHeld => ?_); refine with_tabW heronrylaw21_SchedDrops.tab19 heronrylaw21_SchedDrops.bits19 (fun HT_ HW_ => ?_)
                            generalize w51.drew = w53 at HO_316000 HO_317000 HO322 HO328 BK315 BK316 BK325 HB hx329_0 hHeld ⊢
                            refine pure_ (i := 1) (N := some 77) (v := ?_) (a' := ?_) #[false, true, false, false, false, false, false, false, false, false, false, false, false] rfl rfl (any_of HT_.out (by kernel_rfl)) (fun _ _ _ h => h) (Or.inl ⟨by rfl, ?_⟩) ?_ ?_
                            rotate_left
                            · intro w'
                              go_simp
                              with_reducible rfl
                            rotate_left
                            · simp only [Act.put, List.setIfInBounds_toArray, List.set_cons_zero, List.set_cons_succ, i64_w, i32_w]
                              rfl
                            refine pure_ (i := 2) (N := some 78) (v := ?_) (a' := ?_) #[false, true, true, false, false, false, false, false, false, false, false, false, false] rfl rfl (any_of HT_.out (by kernel_rfl)) (fun _ _ _ h => h) (Or.inl ⟨by rfl, ?_⟩) ?_ ?_
                            rotate_left
                            · intro w'
                              go_simp
                              with_reducible rfl
                            rotate_left
                            · simp only [Act.put, List.setIfInBounds_toArray, List.set_cons_zero, List.set_cons_succ, i64_w, i32_w]
                              rfl
                            refine pure_ (i := 3) (N := some 79) (v := ?_) (a' := ?_) #[false, true, true, true, false, false, false, false, false, false, false, false, false] rfl rfl (any_of HT_.out (by kernel_rfl)) (fun _ _ _ h => h) (Or.inl ⟨by rfl, ?_⟩) ?_ ?_
                            rotate_left
                            · intro w'
                              go_simp
                              with_reducible rfl
                            rotate_left
                            · simp only [Act.put, List.setIfInBounds_toArray, List.set_cons_zero, List.set_cons_succ, i64_w, i32_w]
                              rfl
                            refine pure_ (i := 4) (N := some 80) (v := ?_) (a' := ?_) #[false, true, true, true, true, false, false, false, false, false, false, false, false] rfl rfl (any_of HT_.out (by kernel_rfl)) (fun _ _ _ h => h) (Or.inl ⟨by rfl, ?_⟩) ?_ ?_
                            rotate_left
                            · intro w'
                              go_simp
                              with_reducible rfl
                            rotate_left
                            · simp only [Act.put, List.setIfInBounds_toArray, List.set_cons_zero, List.set_cons_succ, i64_w, i32_w]
                              rfl
                            refine take_ (i := 0) (N := some 76) (v := ?_) (a' := ?_) #[true, true, true, true, true, false, false, false, false, false, false, false, false] rfl rfl (take_ofW HT_.out HW_.out (by kernel_rfl)) (fun _ _ _ h => h) (Or.inl ⟨by rfl, ?_⟩) hHeld ?_ ?_
                            rotate_left
                            · rintro w' ⟨s0, s1, s2⟩
                              go_simp
                              with_reducible rfl
                            rotate_left
                            · simp only [Act.put, List.setIfInBounds_toArray, List.set_cons_zero, List.set_cons_succ, i64_w, i32_w]
                              rfl
                            refine take_ (i := 5) (N := some 81) (v := ?_) (a' := ?_) #[true, true, true, true, true, true, false, false, false, false, false, false, false] rfl rfl (take_ofW HT_.out HW_.out (by kernel_rfl)) (fun _ _ _ h => h) (Or.inl ⟨by rfl, ?_⟩) hHeld ?_ ?_
                            rotate_left
                            · rintro w' ⟨s0, s1, s2⟩
                              go_simp
                              with_reducible rfl
                            rotate_left
                            · simp only [Act.put, List.setIfInBounds_toArray, List.set_cons_zero, List.set_cons_succ, i64_w, i32_w]
                              rfl
                            refine join_ (σ := Value × Nat) 2 #[true, true, true, true, true, true, true, true, true, true, true, false, false] (fun s_ => [(82, .tuple #[.agg #[s_.1, .int .i64 t333], .int .i64 t334]), (13, .pointer (some ⟨s_.2, 0, none⟩)), (75, .tuple #[.agg #[s_.1, .int .i64 t333], .int .i64 t334]), (83, .agg #[s_.1, .int .i64 t333]), (84, .int .i64 t334)]) (fun s_ w' => (w'.cell? ⟨gb316, 0, none⟩ = some (.slice Ao52 x317000_2.length co52) ∧ w'.cell? ⟨gb316, 1, none⟩ = some (.int .i64 x317001_2) ∧ w'.cell? (ad317.add (x10_2).toNat) = some (.int .u64 (rd l0 x10_2))) ∧ (Kd.R k44 44 w' w.heap.size (fun k_ => some k_ ≠ (s_.1 : Value).ownBlock ∧ some k_ ≠ (.slice Ao38 x316000_2.length co38 : Value).ownBlock ∧ some k_ ≠ (.slice Ao52 x317000_2.length co52 : Value).ownBlock) (.slice Ao43 t320.length co43) t320) ∧ (Kd.R (Kd.int .i64) 3 w' w.heap.size (fun _ => True) v327 y326) ∧ (Kd.R k44 44 w' w.heap.size (fun k_ => some k_ ≠ (.slice Ao43 t320.length co43 : Value).ownBlock ∧ some k_ ≠ (.slice Ao38 x316000_2.length co38 : Value).ownBlock ∧ some k_ ≠ (.slice Ao52 x317000_2.length co52 : Value).ownBlock) s_.1 t330) ∧ (Kd.R k44 44 w' w.heap.size (fun k_ => some k_ ≠ (.slice Ao43 t320.length co43 : Value).ownBlock ∧ some k_ ≠ (s_.1 : Value).ownBlock ∧ some k_ ≠ (.slice Ao52 x317000_2.length co52 : Value).ownBlock) (.slice Ao38 x316000_2.length co38) x316000_2) ∧ (Kd.R k44 44 w' w.heap.size (fun k_ => some k_ ≠ (.slice Ao43 t320.length co43 : Value).ownBlock ∧ some k_ ≠ (s_.1 : Value).ownBlock ∧ some k_ ≠ (.slice Ao38 x316000_2.length co38 : Value).ownBlock) (.slice Ao52 x317000_2.length co52) x317000_2) ∧ (w'.heap[gb315]? = some (.cells #[.slice Ao43 t320.length co43, .int .i64 t323] 26 (0, 0))) ∧ (w'.heap[gb316]? = some (.cells #[.slice Ao52 x317000_2.length co52, .int .i64 x317001_2] 26 (0, 0))) ∧ (w'.heap[gb325]? = some (.cells #[.slice Ao43 t320.length co43, .int .i64 t323] 26 (0, 0))) ∧ (w'.heap[s_.2]? = some (.cells #[.slice none 0 0, .int .i64 0] 26 (0, 0))) ∧ (w.heap.size ≤ s_.2) ∧ (w.heap.size ≤ s_.2) ∧ (gb315 ≠ s_.2) ∧ (s_.2 ≠ gb315) ∧ (gb316 ≠ s_.2) ∧ (s_.2 ≠ gb316) ∧ (gb325 ≠ s_.2) ∧ (s_.2 ≠ gb325) ∧ (Below w.heap.size w w')) ?_ ?_
                            rotate_left
                            · intro hCont
                              refine two_ (i := 6) (j := 10) (Ni := some 82) (Nj := some 13) #[true, true, true, true, true, true, true, false, false, false, false, false, false] #[true, true, true, true, true, true, false, false, false, false, true, false, false] rfl rfl rfl rfl (two_of HT_.out (by kernel_rfl)) (by decide) (by decide) (fun K hK => ?_) (fun K hK => ?_)
                              · skip
                                refine goes_ Try.func10 (by kernel_rfl) rfl #[.agg #[.slice Ao52 x317000_2.length co52, .int .i64 x317001_2], .int .i64 x10_2, .int .u64 (rd l0 x10_2)] (by rfl) rfl rfl (by (try simp only [List.map_toArray, List.map_cons, List.map_nil]); first | done | rfl | (simp only [List.length_drop, List.length_take]; rfl)) ?_
                                with_reducible refine (sched_Add.calls k2 _ _ x317000_2 x317001_2 x10_2 (rd l0 x10_2) t330 t333 t334 _ ?side1 ?side2 A36.out).mono ?_
                                (case side1 => repeat (first | exact (Kd.R_reads' HO_317000.out).2.2 | (with_reducible refine Kd.C_alloc ?_ _) | (with_reducible refine Kd.C_drewN ?_ _) | (with_reducible refine Kd.C_drew ?_)))
                                (case side2 => exact (Kd.R_reads' HO_317000.out).2.1)
                                rintro e w54 ⟨v331, rfl, ho0, hb⟩
                                refine ⟨_, rfl, ?_⟩
                                have n0_ := Aside0.mk (Kd.R_elder' (by (with_reducible repeat (first | apply Kd.R_alloc | apply Kd.R_drewN | apply Kd.R_drew)); exact HO_316000.out) (Kd.R_base ho0) hb)
                                have n1_ := Aside0.mk (Kd.R_elder' (by (with_reducible repeat (first | apply Kd.R_alloc | apply Kd.R_drewN | apply Kd.R_drew)); exact HO_317000.out) (Kd.R_base ho0) hb)
                                have n2_ := Aside0.mk (Kd.R_elder' (by (with_reducible repeat (first | apply Kd.R_alloc | apply Kd.R_drewN | apply Kd.R_drew)); exact HO322.out) (Kd.R_base ho0) hb)
                                have n3_ := Aside0.mk (Kd.R_below (by (with_reducible repeat (first | apply Kd.R_alloc | apply Kd.R_drewN | apply Kd.R_drew)); exact HO328.out) hb)
                                have n4_ := Aside0.mk (Kd.R_lower (Kd.R_new' (Kd.R_new' (Kd.R_new' ho0 (Kd.R_lt (by (with_reducible repeat (first | apply Kd.R_alloc | apply Kd.R_drewN | apply Kd.R_drew)); exact HO_316000.out))) (Kd.R_lt (by (with_reducible repeat (first | apply Kd.R_alloc | apply Kd.R_drewN | apply Kd.R_drew)); exact HO_317000.out))) (Kd.R_lt (by (with_reducible repeat (first | apply Kd.R_alloc | apply Kd.R_drewN | apply Kd.R_drew)); exact HO322.out))) (below_size (by repeat (first | (with_reducible first | exact HB.out | apply below_alloc | apply pw_below_drewN | apply below_drew1 | refine below_set ?_ GE315.out | refine below_set ?_ GE316.out | refine below_set ?_ GE325.out) | exact HB.out))))
                                have n5_ := Aside0.mk (blk_below (g := gb315) (o := .cells #[.slice Ao43 t320.length co43, .int .i64 t323] 26 (0, 0)) (by (with_reducible repeat (first | refine blk_drewN ?_ _ | refine blk_drew ?_ | refine blk_alloc ?_ _)); exact BK315.out) hb)
                                have n6_ := Aside0.mk (blk_below (g := gb316) (o := .cells #[.slice Ao52 x317000_2.length co52, .int .i64 x317001_2] 26 (0, 0)) (by (with_reducible repeat (first | refine blk_drewN ?_ _ | refine blk_drew ?_ | refine blk_alloc ?_ _)); exact BK316.out) hb)
                                have n7_ := Aside0.mk (blk_below (g := gb325) (o := .cells #[.slice Ao43 t320.length co43, .int .i64 t323] 26 (0, 0)) (by (with_reducible repeat (first | refine blk_drewN ?_ _ | refine blk_drew ?_ | refine blk_alloc ?_ _)); exact BK325.out) hb)
                                have n8_ := Aside0.mk (below_step (by repeat (first | (with_reducible first | exact HB.out | apply below_alloc | apply pw_below_drewN | apply below_drew1 | refine below_set ?_ GE315.out | refine below_set ?_ GE316.out | refine below_set ?_ GE325.out) | exact HB.out)) hb)
                                clear HO_316000
                                clear HO_317000
                                clear HO322
                                clear HO328
                                clear BK315
                                clear BK316
                                clear BK325
                                clear HB
                                have HO_316000 := n0_
                                have HO_317000 := n1_
                                have HO322 := n2_
                                have HO328 := n3_
                                have HO332 := n4_
                                have BK315 := n5_
                                have BK316 := n6_
                                have BK325 := n7_
                                have HB := n8_
                                clear n0_ n1_ n2_ n3_ n4_ n5_ n6_ n7_ n8_
                                (try clear hb)
                                (try clear hb2)
                                (try clear hk)
                                (try clear hi)
                                (try clear ho0)
                                refine hK.out _ _ ⟨(blk_cell BK316.out 0).trans rfl, (blk_cell BK316.out 1).trans rfl, ((HB.out.cell (World.block_lt_of_cell? w _ hw329_0)).trans hw329_0)⟩ (fun hHeld => ?_)
                                clear hK K
                                refine norm_ (a' := ?_) ?_ ?_
                                rotate_left
                                · show Act.put _ (some 82) _ = _
                                  simp only [Act.put, List.setIfInBounds_toArray, List.set_cons_zero, List.set_cons_succ, i64_w, i32_w]
                                  rfl
                                refine pure_ (i := 7) (N := some 75) (v := ?_) (a' := ?_) #[true, true, true, true, true, true, true, true, false, false, false, false, false] rfl rfl (any_of HT_.out (by kernel_rfl)) (fun _ _ _ h => h) (Or.inl ⟨by rfl, ?_⟩) ?_ ?_
                                rotate_left
                                · intro w'
                                  go_simp
                                  with_reducible rfl
                                rotate_left
                                · simp only [Act.put, List.setIfInBounds_toArray, List.set_cons_zero, List.set_cons_succ, i64_w, i32_w]
                                  rfl
                                refine pure_ (i := 8) (N := some 83) (v := ?_) (a' := ?_) #[true, true, true, true, true, true, true, true, true, false, false, false, false] rfl rfl (any_of HT_.out (by kernel_rfl)) (fun _ _ _ h => h) (Or.inl ⟨by rfl, ?_⟩) ?_ ?_
                                rotate_left
                                · intro w'
                                  go_simp
                                  with_reducible rfl
                                rotate_left
                                · simp only [Act.put, List.setIfInBounds_toArray, List.set_cons_zero, List.set_cons_succ, i64_w, i32_w]
                                  rfl
                                refine pure_ (i := 9) (N := some 84) (v := ?_) (a' := ?_) #[true, true, true, true, true, true, true, true, true, true, false, false, false] rfl rfl (any_of HT_.out (by kernel_rfl)) (fun _ _ _ h => h) (Or.inl ⟨by rfl, ?_⟩) ?_ ?_
                                rotate_left
                                · intro w'
                                  go_simp
                                  with_reducible rfl
                                rotate_left
                                · simp only [Act.put, List.setIfInBounds_toArray, List.set_cons_zero, List.set_cons_succ, i64_w, i32_w]
                                  rfl
                                refine one_ (i := 10) (N := some 13) #[true, true, true, true, true, true, true, true, true, true, true, false, false] rfl rfl (one_of HT_.out (by kernel_rfl)) (by decide) (fun K hK => ?_)
                                refine box_step ?hg (N := 13) ?hd (cs := #[.slice none 0 0, .int .i64 0]) (t := 26) ?hr ?_; (case hd => rfl); (case hg => rfl); (case hr => first | (go_simp; done) | (go_simp; rfl))
                                intro gb335 hg w55 hbox hb
                                have n0_ := Aside0.mk (Kd.R_below (by (with_reducible repeat (first | apply Kd.R_alloc | apply Kd.R_drewN | apply Kd.R_drew)); exact HO_316000.out) hb)
                                have n1_ := Aside0.mk (Kd.R_below (by (with_reducible repeat (first | apply Kd.R_alloc | apply Kd.R_drewN | apply Kd.R_drew)); exact HO_317000.out) hb)
                                have n2_ := Aside0.mk (Kd.R_below (by (with_reducible repeat (first | apply Kd.R_alloc | apply Kd.R_drewN | apply Kd.R_drew)); exact HO322.out) hb)
                                have n3_ := Aside0.mk (Kd.R_below (by (with_reducible repeat (first | apply Kd.R_alloc | apply Kd.R_drewN | apply Kd.R_drew)); exact HO328.out) hb)
                                have n4_ := Aside0.mk (Kd.R_below (by (with_reducible repeat (first | apply Kd.R_alloc | apply Kd.R_drewN | apply Kd.R_drew)); exact HO332.out) hb)
                                have n5_ := Aside0.mk (blk_below (g := gb315) (o := .cells #[.slice Ao43 t320.length co43, .int .i64 t323] 26 (0, 0)) (by (with_reducible repeat (first | refine blk_drewN ?_ _ | refine blk_drew ?_ | refine blk_alloc ?_ _)); exact BK315.out) hb)
                                have n6_ := Aside0.mk (blk_below (g := gb316) (o := .cells #[.slice Ao52 x317000_2.length co52, .int .i64 x317001_2] 26 (0, 0)) (by (with_reducible repeat (first | refine blk_drewN ?_ _ | refine blk_drew ?_ | refine blk_alloc ?_ _)); exact BK316.out) hb)
                                have n7_ := Aside0.mk (blk_below (g := gb325) (o := .cells #[.slice Ao43 t320.length co43, .int .i64 t323] 26 (0, 0)) (by (with_reducible repeat (first | refine blk_drewN ?_ _ | refine blk_drew ?_ | refine blk_alloc ?_ _)); exact BK325.out) hb)
                                have n8_ := Aside0.mk (below_step (by repeat (first | (with_reducible first | exact HB.out | apply below_alloc | apply pw_below_drewN | apply below_drew1 | refine below_set ?_ GE315.out | refine below_set ?_ GE316.out | refine below_set ?_ GE325.out) | exact HB.out)) hb)
                                have n9_ := Aside0.mk (hbox)
                                have n10_ := Aside0.mk ((by rw [hg]; exact (below_size (by repeat (first | (with_reducible first | exact HB.out | apply below_alloc | apply pw_below_drewN | apply below_drew1 | refine below_set ?_ GE315.out | refine below_set ?_ GE316.out | refine below_set ?_ GE325.out) | exact HB.out))) : w.heap.size ≤ gb335))
                                have n11_ := Aside0.mk ((by rw [hg]; exact (below_size (by repeat (first | (with_reducible first | exact HB.out | apply below_alloc | apply pw_below_drewN | apply below_drew1 | refine below_set ?_ GE315.out | refine below_set ?_ GE316.out | refine below_set ?_ GE325.out) | exact HB.out))) : w.heap.size ≤ gb335))
                                have n12_ := Aside0.mk ((by rw [hg]; exact Nat.ne_of_lt (blk_lt (g := gb315) (o := .cells #[.slice Ao43 t320.length co43, .int .i64 t323] 26 (0, 0)) (by (with_reducible repeat (first | refine blk_drewN ?_ _ | refine blk_drew ?_ | refine blk_alloc ?_ _)); exact BK315.out)) : gb315 ≠ gb335))
                                have n13_ := Aside0.mk ((by rw [hg]; exact Nat.ne_of_gt (blk_lt (g := gb315) (o := .cells #[.slice Ao43 t320.length co43, .int .i64 t323] 26 (0, 0)) (by (with_reducible repeat (first | refine blk_drewN ?_ _ | refine blk_drew ?_ | refine blk_alloc ?_ _)); exact BK315.out)) : gb335 ≠ gb315))
                                have n14_ := Aside0.mk ((by rw [hg]; exact Nat.ne_of_lt (blk_lt (g := gb316) (o := .cells #[.slice Ao52 x317000_2.length co52, .int .i64 x317001_2] 26 (0, 0)) (by (with_reducible repeat (first | refine blk_drewN ?_ _ | refine blk_drew ?_ | refine blk_alloc ?_ _)); exact BK316.out)) : gb316 ≠ gb335))
                                have n15_ := Aside0.mk ((by rw [hg]; exact Nat.ne_of_gt (blk_lt (g := gb316) (o := .cells #[.slice Ao52 x317000_2.length co52, .int .i64 x317001_2] 26 (0, 0)) (by (with_reducible repeat (first | refine blk_drewN ?_ _ | refine blk_drew ?_ | refine blk_alloc ?_ _)); exact BK316.out)) : gb335 ≠ gb316))
                                have n16_ := Aside0.mk ((by rw [hg]; exact Nat.ne_of_lt (blk_lt (g := gb325) (o := .cells #[.slice Ao43 t320.length co43, .int .i64 t323] 26 (0, 0)) (by (with_reducible repeat (first | refine blk_drewN ?_ _ | refine blk_drew ?_ | refine blk_alloc ?_ _)); exact BK325.out)) : gb325 ≠ gb335))
                                have n17_ := Aside0.mk ((by rw [hg]; exact Nat.ne_of_gt (blk_lt (g := gb325) (o := .cells #[.slice Ao43 t320.length co43, .int .i64 t323] 26 (0, 0)) (by (with_reducible repeat (first | refine blk_drewN ?_ _ | refine blk_drew ?_ | refine blk_alloc ?_ _)); exact BK325.out)) : gb335 ≠ gb325))
                                clear HO_316000
                                clear HO_317000
                                clear HO322
                                clear HO328
                                clear HO332
                                clear BK315
                                clear BK316
                                clear BK325
                                clear HB
                                have HO_316000 := n0_
                                have HO_317000 := n1_
                                have HO322 := n2_
                                have HO328 := n3_
                                have HO332 := n4_
                                have BK315 := n5_
                                have BK316 := n6_
                                have BK325 := n7_
                                have HB := n8_
                                have BK335 := n9_
                                have GW335 := n10_
                                have GE335 := n11_
                                have NB315_335 := n12_
                                have NB335_315 := n13_
                                have NB316_335 := n14_
                                have NB335_316 := n15_
                                have NB325_335 := n16_
                                have NB335_325 := n17_
                                clear n0_ n1_ n2_ n3_ n4_ n5_ n6_ n7_ n8_ n9_ n10_ n11_ n12_ n13_ n14_ n15_ n16_ n17_
                                clear hb hbox hg
                                refine hK.out _ _ ⟨(blk_cell BK316.out 0).trans rfl, (blk_cell BK316.out 1).trans rfl, ((HB.out.cell (World.block_lt_of_cell? w _ hw329_0)).trans hw329_0)⟩ (fun hHeld => ?_)
                                clear hK K
                                refine norm_ (a' := ?_) ?_ ?_
                                rotate_left
                                · show Act.put _ (some 13) _ = _
                                  simp only [Act.put, List.setIfInBounds_toArray, List.set_cons_zero, List.set_cons_succ, i64_w, i32_w]
                                  rfl
                                exact norm_ (by simp only [putAll, Act.put, List.setIfInBounds_toArray, List.set_cons_zero, List.set_cons_succ]) (hCont (v331, gb335) _ ⟨hHeld, (by (with_reducible repeat (first | apply Kd.R_alloc | apply Kd.R_drewN | apply Kd.R_drew)); exact Kd.R_mono HO322.out (fun _ hk => ⟨hk.2, ⟨hk.1.1, hk.1.2⟩⟩)), (by (with_reducible repeat (first | apply Kd.R_alloc | apply Kd.R_drewN | apply Kd.R_drew)); exact HO328.out), (by (with_reducible repeat (first | apply Kd.R_alloc | apply Kd.R_drewN | apply Kd.R_drew)); exact Kd.R_mono HO332.out (fun _ hk => ⟨hk.2, ⟨hk.1.1.2, hk.1.2⟩⟩)), (by (with_reducible repeat (first | apply Kd.R_alloc | apply Kd.R_drewN | apply Kd.R_drew)); exact Kd.R_mono HO_316000.out (fun _ hk => ⟨hk.1.1, ⟨hk.2, hk.1.2⟩⟩)), (by (with_reducible repeat (first | apply Kd.R_alloc | apply Kd.R_drewN | apply Kd.R_drew)); exact Kd.R_mono HO_317000.out (fun _ hk => ⟨hk.1.1, ⟨hk.2, hk.1.2⟩⟩)), (by (with_reducible repeat (first | refine blk_drewN ?_ _ | refine blk_drew ?_ | refine blk_alloc ?_ _)); exact BK315.out), (by (with_reducible repeat (first | refine blk_drewN ?_ _ | refine blk_drew ?_ | refine blk_alloc ?_ _)); exact BK316.out), (by (with_reducible repeat (first | refine blk_drewN ?_ _ | refine blk_drew ?_ | refine blk_alloc ?_ _)); exact BK325.out), (by (with_reducible repeat (first | refine blk_drewN ?_ _ | refine blk_drew ?_ | refine blk_alloc ?_ _)); exact BK335.out), GW335.out, GE335.out, NB315_335.out, NB335_315.out, NB316_335.out, NB335_316.out, NB325_335.out, NB335_325.out, (by repeat (first | (with_reducible first | exact HB.out | apply below_alloc | apply pw_below_drewN | apply below_drew1 | refine below_set ?_ GE315.out | refine below_set ?_ GE316.out | refine below_set ?_ GE325.out | refine below_set ?_ GE335.out) | exact HB.out))⟩)
                              · skip
                                refine box_step ?hg (N := 13) ?hd (cs := #[.slice none 0 0, .int .i64 0]) (t := 26) ?hr ?_; (case hd => rfl); (case hg => rfl); (case hr => first | (go_simp; done) | (go_simp; rfl))
                                intro gb335 hg w54 hbox hb
                                have n0_ := Aside0.mk (Kd.R_below (by (with_reducible repeat (first | apply Kd.R_alloc | apply Kd.R_drewN | apply Kd.R_drew)); exact HO_316000.out) hb)
                                have n1_ := Aside0.mk (Kd.R_below (by (with_reducible repeat (first | apply Kd.R_alloc | apply Kd.R_drewN | apply Kd.R_drew)); exact HO_317000.out) hb)
                                have n2_ := Aside0.mk (Kd.R_below (by (with_reducible repeat (first | apply Kd.R_alloc | apply Kd.R_drewN | apply Kd.R_drew)); exact HO322.out) hb)
                                have n3_ := Aside0.mk (Kd.R_below (by (with_reducible repeat (first | apply Kd.R_alloc | apply Kd.R_drewN | apply Kd.R_drew)); exact HO328.out) hb)
                                have n4_ := Aside0.mk (blk_below (g := gb315) (o := .cells #[.slice Ao43 t320.length co43, .int .i64 t323] 26 (0, 0)) (by (with_reducible repeat (first | refine blk_drewN ?_ _ | refine blk_drew ?_ | refine blk_alloc ?_ _)); exact BK315.out) hb)
                                have n5_ := Aside0.mk (blk_below (g := gb316) (o := .cells #[.slice Ao52 x317000_2.length co52, .int .i64 x317001_2] 26 (0, 0)) (by (with_reducible repeat (first | refine blk_drewN ?_ _ | refine blk_drew ?_ | refine blk_alloc ?_ _)); exact BK316.out) hb)
                                have n6_ := Aside0.mk (blk_below (g := gb325) (o := .cells #[.slice Ao43 t320.length co43, .int .i64 t323] 26 (0, 0)) (by (with_reducible repeat (first | refine blk_drewN ?_ _ | refine blk_drew ?_ | refine blk_alloc ?_ _)); exact BK325.out) hb)
                                have n7_ := Aside0.mk (below_step (by repeat (first | (with_reducible first | exact HB.out | apply below_alloc | apply pw_below_drewN | apply below_drew1 | refine below_set ?_ GE315.out | refine below_set ?_ GE316.out | refine below_set ?_ GE325.out) | exact HB.out)) hb)
                                have n8_ := Aside0.mk (hbox)
                                have n9_ := Aside0.mk ((by rw [hg]; exact (below_size (by repeat (first | (with_reducible first | exact HB.out | apply below_alloc | apply pw_below_drewN | apply below_drew1 | refine below_set ?_ GE315.out | refine below_set ?_ GE316.out | refine below_set ?_ GE325.out) | exact HB.out))) : w.heap.size ≤ gb335))
                                have n10_ := Aside0.mk ((by rw [hg]; exact (below_size (by repeat (first | (with_reducible first | exact HB.out | apply below_alloc | apply pw_below_drewN | apply below_drew1 | refine below_set ?_ GE315.out | refine below_set ?_ GE316.out | refine below_set ?_ GE325.out) | exact HB.out))) : w.heap.size ≤ gb335))
                                have n11_ := Aside0.mk ((by rw [hg]; exact Nat.ne_of_lt (blk_lt (g := gb315) (o := .cells #[.slice Ao43 t320.length co43, .int .i64 t323] 26 (0, 0)) (by (with_reducible repeat (first | refine blk_drewN ?_ _ | refine blk_drew ?_ | refine blk_alloc ?_ _)); exact BK315.out)) : gb315 ≠ gb335))
                                have n12_ := Aside0.mk ((by rw [hg]; exact Nat.ne_of_gt (blk_lt (g := gb315) (o := .cells #[.slice Ao43 t320.length co43, .int .i64 t323] 26 (0, 0)) (by (with_reducible repeat (first | refine blk_drewN ?_ _ | refine blk_drew ?_ | refine blk_alloc ?_ _)); exact BK315.out)) : gb335 ≠ gb315))
                                have n13_ := Aside0.mk ((by rw [hg]; exact Nat.ne_of_lt (blk_lt (g := gb316) (o := .cells #[.slice Ao52 x317000_2.length co52, .int .i64 x317001_2] 26 (0, 0)) (by (with_reducible repeat (first | refine blk_drewN ?_ _ | refine blk_drew ?_ | refine blk_alloc ?_ _)); exact BK316.out)) : gb316 ≠ gb335))
                                have n14_ := Aside0.mk ((by rw [hg]; exact Nat.ne_of_gt (blk_lt (g := gb316) (o := .cells #[.slice Ao52 x317000_2.length co52, .int .i64 x317001_2] 26 (0, 0)) (by (with_reducible repeat (first | refine blk_drewN ?_ _ | refine blk_drew ?_ | refine blk_alloc ?_ _)); exact BK316.out)) : gb335 ≠ gb316))
                                have n15_ := Aside0.mk ((by rw [hg]; exact Nat.ne_of_lt (blk_lt (g := gb325) (o := .cells #[.slice Ao43 t320.length co43, .int .i64 t323] 26 (0, 0)) (by (with_reducible repeat (first | refine blk_drewN ?_ _ | refine blk_drew ?_ | refine blk_alloc ?_ _)); exact BK325.out)) : gb325 ≠ gb335))
                                have n16_ := Aside0.mk ((by rw [hg]; exact Nat.ne_of_gt (blk_lt (g := gb325) (o := .cells #[.slice Ao43 t320.length co43, .int .i64 t323] 26 (0, 0)) (by (with_reducible repeat (first | refine blk_drewN ?_ _ | refine blk_drew ?_ | refine blk_alloc ?_ _)); exact BK325.out)) : gb335 ≠ gb325))
                                clear HO_316000
                                clear HO_317000
                                clear HO322
                                clear HO328
                                clear BK315
                                clear BK316
                                clear BK325
                                clear HB
                                have HO_316000 := n0_
                                have HO_317000 := n1_
                                have HO322 := n2_
                                have HO328 := n3_
                                have BK315 := n4_
                                have BK316 := n5_
                                have BK325 := n6_
                                have HB := n7_
                                have BK335 := n8_
                                have GW335 := n9_
                                have GE335 := n10_
                                have NB315_335 := n11_
                                have NB335_315 := n12_
                                have NB316_335 := n13_
                                have NB335_316 := n14_
                                have NB325_335 := n15_
                                have NB335_325 := n16_
                                clear n0_ n1_ n2_ n3_ n4_ n5_ n6_ n7_ n8_ n9_ n10_ n11_ n12_ n13_ n14_ n15_ n16_
                                clear hb hbox hg
                                refine hK.out _ _ ⟨(blk_cell BK316.out 0).trans rfl, (blk_cell BK316.out 1).trans rfl, ((HB.out.cell (World.block_lt_of_cell? w _ hw329_0)).trans hw329_0)⟩ (fun hHeld => ?_)
                                clear hK K
                                refine norm_ (a' := ?_) ?_ ?_
                                rotate_left
                                · show Act.put _ (some 13) _ = _
                                  simp only [Act.put, List.setIfInBounds_toArray, List.set_cons_zero, List.set_cons_succ, i64_w, i32_w]
                                  rfl
                                refine one_ (i := 6) (N := some 82) #[true, true, true, true, true, true, true, false, false, false, true, false, false] rfl rfl (one_of HT_.out (by kernel_rfl)) (by decide) (fun K hK => ?_)
                                refine goes_ Try.func10 (by kernel_rfl) rfl #[.agg #[.slice Ao52 x317000_2.length co52, .int .i64 x317001_2], .int .i64 x10_2, .int .u64 (rd l0 x10_2)] (by rfl) rfl rfl (by (try simp only [List.map_toArray, List.map_cons, List.map_nil]); first | done | rfl | (simp only [List.length_drop, List.length_take]; rfl)) ?_
                                with_reducible refine (sched_Add.calls k2 _ _ x317000_2 x317001_2 x10_2 (rd l0 x10_2) t330 t333 t334 _ ?side1 ?side2 A36.out).mono ?_
                                (case side1 => repeat (first | exact (Kd.R_reads' HO_317000.out).2.2 | (with_reducible refine Kd.C_alloc ?_ _) | (with_reducible refine Kd.C_drewN ?_ _) | (with_reducible refine Kd.C_drew ?_)))
                                (case side2 => exact (Kd.R_reads' HO_317000.out).2.1)
                                rintro e w55 ⟨v331, rfl, ho0, hb⟩
                                refine ⟨_, rfl, ?_⟩
                                have n0_ := Aside0.mk (Kd.R_elder' (by (with_reducible repeat (first | apply Kd.R_alloc | apply Kd.R_drewN | apply Kd.R_drew)); exact HO_316000.out) (Kd.R_base ho0) hb)
                                have n1_ := Aside0.mk (Kd.R_elder' (by (with_reducible repeat (first | apply Kd.R_alloc | apply Kd.R_drewN | apply Kd.R_drew)); exact HO_317000.out) (Kd.R_base ho0) hb)
                                have n2_ := Aside0.mk (Kd.R_elder' (by (with_reducible repeat (first | apply Kd.R_alloc | apply Kd.R_drewN | apply Kd.R_drew)); exact HO322.out) (Kd.R_base ho0) hb)
                                have n3_ := Aside0.mk (Kd.R_below (by (with_reducible repeat (first | apply Kd.R_alloc | apply Kd.R_drewN | apply Kd.R_drew)); exact HO328.out) hb)
                                have n4_ := Aside0.mk (Kd.R_lower (Kd.R_new' (Kd.R_new' (Kd.R_new' ho0 (Kd.R_lt (by (with_reducible repeat (first | apply Kd.R_alloc | apply Kd.R_drewN | apply Kd.R_drew)); exact HO_316000.out))) (Kd.R_lt (by (with_reducible repeat (first | apply Kd.R_alloc | apply Kd.R_drewN | apply Kd.R_drew)); exact HO_317000.out))) (Kd.R_lt (by (with_reducible repeat (first | apply Kd.R_alloc | apply Kd.R_drewN | apply Kd.R_drew)); exact HO322.out))) (below_size (by repeat (first | (with_reducible first | exact HB.out | apply below_alloc | apply pw_below_drewN | apply below_drew1 | refine below_set ?_ GE315.out | refine below_set ?_ GE316.out | refine below_set ?_ GE325.out | refine below_set ?_ GE335.out) | exact HB.out))))
                                have n5_ := Aside0.mk (blk_below (g := gb315) (o := .cells #[.slice Ao43 t320.length co43, .int .i64 t323] 26 (0, 0)) (by (with_reducible repeat (first | refine blk_drewN ?_ _ | refine blk_drew ?_ | refine blk_alloc ?_ _)); exact BK315.out) hb)
                                have n6_ := Aside0.mk (blk_below (g := gb316) (o := .cells #[.slice Ao52 x317000_2.length co52, .int .i64 x317001_2] 26 (0, 0)) (by (with_reducible repeat (first | refine blk_drewN ?_ _ | refine blk_drew ?_ | refine blk_alloc ?_ _)); exact BK316.out) hb)
                                have n7_ := Aside0.mk (blk_below (g := gb325) (o := .cells #[.slice Ao43 t320.length co43, .int .i64 t323] 26 (0, 0)) (by (with_reducible repeat (first | refine blk_drewN ?_ _ | refine blk_drew ?_ | refine blk_alloc ?_ _)); exact BK325.out) hb)
                                have n8_ := Aside0.mk (blk_below (g := gb335) (o := .cells #[.slice none 0 0, .int .i64 0] 26 (0, 0)) (by (with_reducible repeat (first | refine blk_drewN ?_ _ | refine blk_drew ?_ | refine blk_alloc ?_ _)); exact BK335.out) hb)
                                have n9_ := Aside0.mk (below_step (by repeat (first | (with_reducible first | exact HB.out | apply below_alloc | apply pw_below_drewN | apply below_drew1 | refine below_set ?_ GE315.out | refine below_set ?_ GE316.out | refine below_set ?_ GE325.out | refine below_set ?_ GE335.out) | exact HB.out)) hb)
                                clear HO_316000
                                clear HO_317000
                                clear HO322
                                clear HO328
                                clear BK315
                                clear BK316
                                clear BK325
                                clear BK335
                                clear HB
                                have HO_316000 := n0_
                                have HO_317000 := n1_
                                have HO322 := n2_
                                have HO328 := n3_
                                have HO332 := n4_
                                have BK315 := n5_
                                have BK316 := n6_
                                have BK325 := n7_
                                have BK335 := n8_
                                have HB := n9_
                                clear n0_ n1_ n2_ n3_ n4_ n5_ n6_ n7_ n8_ n9_
                                (try clear hb)
                                (try clear hb2)
                                (try clear hk)
                                (try clear hi)
                                (try clear ho0)
                                refine hK.out _ _ ⟨(blk_cell BK316.out 0).trans rfl, (blk_cell BK316.out 1).trans rfl, ((HB.out.cell (World.block_lt_of_cell? w _ hw329_0)).trans hw329_0)⟩ (fun hHeld => ?_)
                                clear hK K
                                refine norm_ (a' := ?_) ?_ ?_
                                rotate_left
                                · show Act.put _ (some 82) _ = _
                                  simp only [Act.put, List.setIfInBounds_toArray, List.set_cons_zero, List.set_cons_succ, i64_w, i32_w]
                                  rfl
                                refine pure_ (i := 7) (N := some 75) (v := ?_) (a' := ?_) #[true, true, true, true, true, true, true, true, false, false, true, false, false] rfl rfl (any_of HT_.out (by kernel_rfl)) (fun _ _ _ h => h) (Or.inl ⟨by rfl, ?_⟩) ?_ ?_
                                rotate_left
                                · intro w'
                                  go_simp
                                  with_reducible rfl
                                rotate_left
                                · simp only [Act.put, List.setIfInBounds_toArray, List.set_cons_zero, List.set_cons_succ, i64_w, i32_w]
                                  rfl
                                refine pure_ (i := 8) (N := some 83) (v := ?_) (a' := ?_) #[true, true, true, true, true, true, true, true, true, false, true, false, false] rfl rfl (any_of HT_.out (by kernel_rfl)) (fun _ _ _ h => h) (Or.inl ⟨by rfl, ?_⟩) ?_ ?_
                                rotate_left
                                · intro w'
                                  go_simp
                                  with_reducible rfl
                                rotate_left
                                · simp only [Act.put, List.setIfInBounds_toArray, List.set_cons_zero, List.set_cons_succ, i64_w, i32_w]
                                  rfl
                                refine pure_ (i := 9) (N := some 84) (v := ?_) (a' := ?_) #[true, true, true, true, true, true, true, true, true, true, true, false, false] rfl rfl (any_of HT_.out (by kernel_rfl)) (fun _ _ _ h => h) (Or.inl ⟨by rfl, ?_⟩) ?_ ?_
                                rotate_left
                                · intro w'
                                  go_simp
                                  with_reducible rfl
                                rotate_left
                                · simp only [Act.put, List.setIfInBounds_toArray, List.set_cons_zero, List.set_cons_succ, i64_w, i32_w]
                                  rfl
                                exact norm_ (by simp only [putAll, Act.put, List.setIfInBounds_toArray, List.set_cons_zero, List.set_cons_succ]) (hCont (v331, gb335) _ ⟨hHeld, (by (with_reducible repeat (first | apply Kd.R_alloc | apply Kd.R_drewN | apply Kd.R_drew)); exact Kd.R_mono HO322.out (fun _ hk => ⟨hk.2, ⟨hk.1.1, hk.1.2⟩⟩)), (by (with_reducible repeat (first | apply Kd.R_alloc | apply Kd.R_drewN | apply Kd.R_drew)); exact HO328.out), (by (with_reducible repeat (first | apply Kd.R_alloc | apply Kd.R_drewN | apply Kd.R_drew)); exact Kd.R_mono HO332.out (fun _ hk => ⟨hk.2, ⟨hk.1.1.2, hk.1.2⟩⟩)), (by (with_reducible repeat (first | apply Kd.R_alloc | apply Kd.R_drewN | apply Kd.R_drew)); exact Kd.R_mono HO_316000.out (fun _ hk => ⟨hk.1.1, ⟨hk.2, hk.1.2⟩⟩)), (by (with_reducible repeat (first | apply Kd.R_alloc | apply Kd.R_drewN | apply Kd.R_drew)); exact Kd.R_mono HO_317000.out (fun _ hk => ⟨hk.1.1, ⟨hk.2, hk.1.2⟩⟩)), (by (with_reducible repeat (first | refine blk_drewN ?_ _ | refine blk_drew ?_ | refine blk_alloc ?_ _)); exact BK315.out), (by (with_reducible repeat (first | refine blk_drewN ?_ _ | refine blk_drew ?_ | refine blk_alloc ?_ _)); exact BK316.out), (by (with_reducible repeat (first | refine blk_drewN ?_ _ | refine blk_drew ?_ | refine blk_alloc ?_ _)); exact BK325.out), (by (with_reducible repeat (first | refine blk_drewN ?_ _ | refine blk_drew ?_ | refine blk_alloc ?_ _)); exact BK335.out), GW335.out, GE335.out, NB315_335.out, NB335_315.out, NB316_335.out, NB335_316.out, NB325_335.out, NB335_325.out, (by repeat (first | (with_reducible first | exact HB.out | apply below_alloc | apply pw_below_drewN | apply below_drew1 | refine below_set ?_ GE315.out | refine below_set ?_ GE316.out | refine below_set ?_ GE325.out | refine below_set ?_ GE335.out) | exact HB.out))⟩)
                            rintro ⟨v331, gb335⟩ w56 ⟨hS_, h0_, h1_, h2_, h3_, h4_, h5_, h6_, h7_, h8_, h9_, h10_, h11_, h12_, h13_, h14_, h15_, h16_, h17_⟩
                            have n0_ : Aside0 (Kd.R k44 44 w56 w.heap.size (fun k_ => some k_ ≠ (v331 : Value).ownBlock ∧ some k_ ≠ (.slice Ao38 x316000_2.length co38 : Value).ownBlock ∧ some k_ ≠ (.slice Ao52 x317000_2.length co52 : Value).ownBlock) (.slice Ao43 t320.length co43) t320) := ⟨h0_⟩
                            have n1_ : Aside0 (Kd.R (Kd.int .i64) 3 w56 w.heap.size (fun _ => True) v327 y326) := ⟨h1_⟩
                            have n2_ : Aside0 (Kd.R k44 44 w56 w.heap.size (fun k_ => some k_ ≠ (.slice Ao43 t320.length co43 : Value).ownBlock ∧ some k_ ≠ (.slice Ao38 x316000_2.length co38 : Value).ownBlock ∧ some k_ ≠ (.slice Ao52 x317000_2.length co52 : Value).ownBlock) v331 t330) := ⟨h2_⟩
                            have n3_ : Aside0 (Kd.R k44 44 w56 w.heap.size (fun k_ => some k_ ≠ (.slice Ao43 t320.length co43 : Value).ownBlock ∧ some k_ ≠ (v331 : Value).ownBlock ∧ some k_ ≠ (.slice Ao52 x317000_2.length co52 : Value).ownBlock) (.slice Ao38 x316000_2.length co38) x316000_2) := ⟨h3_⟩
                            have n4_ : Aside0 (Kd.R k44 44 w56 w.heap.size (fun k_ => some k_ ≠ (.slice Ao43 t320.length co43 : Value).ownBlock ∧ some k_ ≠ (v331 : Value).ownBlock ∧ some k_ ≠ (.slice Ao38 x316000_2.length co38 : Value).ownBlock) (.slice Ao52 x317000_2.length co52) x317000_2) := ⟨h4_⟩
                            have n5_ : Aside0 (w56.heap[gb315]? = some (.cells #[.slice Ao43 t320.length co43, .int .i64 t323] 26 (0, 0))) := ⟨h5_⟩
                            have n6_ : Aside0 (w56.heap[gb316]? = some (.cells #[.slice Ao52 x317000_2.length co52, .int .i64 x317001_2] 26 (0, 0))) := ⟨h6_⟩
                            have n7_ : Aside0 (w56.heap[gb325]? = some (.cells #[.slice Ao43 t320.length co43, .int .i64 t323] 26 (0, 0))) := ⟨h7_⟩
                            have n8_ : Aside0 (w56.heap[gb335]? = some (.cells #[.slice none 0 0, .int .i64 0] 26 (0, 0))) := ⟨h8_⟩
                            have n9_ : Aside0 (w.heap.size ≤ gb335) := ⟨h9_⟩
                            have n10_ : Aside0 (w.heap.size ≤ gb335) := ⟨h10_⟩
                            have n11_ : Aside0 (gb315 ≠ gb335) := ⟨h11_⟩
                            have n12_ : Aside0 (gb335 ≠ gb315) := ⟨h12_⟩
                            have n13_ : Aside0 (gb316 ≠ gb335) := ⟨h13_⟩
                            have n14_ : Aside0 (gb335 ≠ gb316) := ⟨h14_⟩
                            have n15_ : Aside0 (gb325 ≠ gb335) := ⟨h15_⟩
                            have n16_ : Aside0 (gb335 ≠ gb325) := ⟨h16_⟩
                            have n17_ : Aside0 (Below w.heap.size w w56) := ⟨h17_⟩
                            clear HO_316000
                            clear HO_317000
                            clear HO322
                            clear HO328
                            clear BK315
                            clear BK316
                            clear BK325
                            clear HB
                            clear h0_ h1_ h2_ h3_ h4_ h5_ h6_ h7_ h8_ h9_ h10_ h11_ h12_ h13_ h14_ h15_ h16_ h17_
                            have HO322 := n0_
                            have HO328 := n1_
                            have HO332 := n2_
                            have HO_316000 := n3_
                            have HO_317000 := n4_
                            have BK315 := n5_
                            have BK316 := n6_
                            have BK325 := n7_
                            have BK335 := n8_
                            have GW335 := n9_
                            have GE335 := n10_
                            have NB315_335 := n11_
                            have NB335_315 := n12_
                            have NB316_335 := n13_
                            have NB335_316 := n14_
                            have NB325_335 := n15_
                            have NB335_325 := n16_
                            have HB := n17_
                            clear n0_ n1_ n2_ n3_ n4_ n5_ n6_ n7_ n8_ n9_ n10_ n11_ n12_ n13_ n14_ n15_ n16_ n17_
                            have hHeld : w56.cell? ⟨gb316, 0, none⟩ = some (.slice Ao52 x317000_2.length co52) ∧ w56.cell? ⟨gb316, 1, none⟩ = some (.int .i64 x317001_2) ∧ w56.cell? (ad317.add (x10_2).toNat) = some (.int .u64 (rd l0 x10_2)) := hS_
                            obtain ⟨Ao57, co57, eo57⟩ := Kd.R_slice HO332.out
                            (first | subst eo57 | (injection eo57 with f1_ f2_ f3_; have f4_ := f1_.symm; have f5_ := f3_.symm; clear f1_ f2_ f3_; subst f4_; subst f5_))
                            refine norm_ (a' := ?_) ?_ ?_
                            rotate_left
                            · simp only [putAll, Act.put, List.setIfInBounds_toArray, List.set_cons_zero, List.set_cons_succ]
                              rfl
                            refine one_ (i := 11) (N := none) #[true, true, true, true, true, true, true, true, true, true, true, true, false] rfl rfl (one_of HT_.out (by kernel_rfl)) (by decide) (fun K hK => ?_)
                            have hs58 : w56.cell? ⟨gb335, 0, none⟩ = some (.slice none 0 0) := (blk_cell BK335.out 0).trans rfl
                            have hfs58 := blk_frozen BK335.out 0
                            have hns58_0 := NB315_335.out
                            have hns58_1 := NB316_335.out
                            have hns58_2 := NB325_335.out
                            have hms58_0 := NB335_315.out
                            have hms58_1 := NB335_316.out
                            have hms58_2 := NB335_325.out
                            have hs59 : w56.cell? ⟨gb335, 1, none⟩ = some (.int .i64 0) := (blk_cell BK335.out 1).trans rfl
                            have hfs59 := blk_frozen BK335.out 1
                            have hns59_0 := NB315_335.out
                            have hns59_1 := NB316_335.out
                            have hns59_2 := NB325_335.out
                            have hms59_0 := NB335_315.out
                            have hms59_1 := NB335_316.out
                            have hms59_2 := NB335_325.out
                            refine skip_ (w1 := ?_) (by rfl) rfl ?_ ?_
                            rotate_left
                            · go_simp
                              rfl
                            refine hK.out _ _ ⟨((cell_far (p := ⟨gb335, _, none⟩) NB316_335.out _).trans (((cell_far (p := ⟨gb335, _, none⟩) NB316_335.out _).trans (hHeld.1)))), ((cell_far (p := ⟨gb335, _, none⟩) NB316_335.out _).trans (((cell_far (p := ⟨gb335, _, none⟩) NB316_335.out _).trans (hHeld.2.1)))), ((cell_far (p := ⟨gb335, _, none⟩) (by first | exact Nat.ne_of_lt (Nat.lt_of_lt_of_le (by have := World.block_lt_of_cell? _ _ hw329_0; first | rwa [add_block] at this | exact this) GW335.out) | (rw [add_block]; exact Nat.ne_of_lt (Nat.lt_of_lt_of_le (by have := World.block_lt_of_cell? _ _ hw329_0; first | rwa [add_block] at this | exact this) GW335.out)) | (show (Addr.add _ _).block ≠ _; rw [add_block]; exact Nat.ne_of_lt (Nat.lt_of_lt_of_le (by have := World.block_lt_of_cell? _ _ hw329_0; first | rwa [add_block] at this | exact this) GW335.out)) | (dsimp only; exact Nat.ne_of_lt (Nat.lt_of_lt_of_le (by have := World.block_lt_of_cell? _ _ hw329_0; first | rwa [add_block] at this | exact this) GW335.out))) _).trans (((cell_far (p := ⟨gb335, _, none⟩) (by first | exact Nat.ne_of_lt (Nat.lt_of_lt_of_le (by have := World.block_lt_of_cell? _ _ hw329_0; first | rwa [add_block] at this | exact this) GW335.out) | (rw [add_block]; exact Nat.ne_of_lt (Nat.lt_of_lt_of_le (by have := World.block_lt_of_cell? _ _ hw329_0; first | rwa [add_block] at this | exact this) GW335.out)) | (show (Addr.add _ _).block ≠ _; rw [add_block]; exact Nat.ne_of_lt (Nat.lt_of_lt_of_le (by have := World.block_lt_of_cell? _ _ hw329_0; first | rwa [add_block] at this | exact this) GW335.out)) | (dsimp only; exact Nat.ne_of_lt (Nat.lt_of_lt_of_le (by have := World.block_lt_of_cell? _ _ hw329_0; first | rwa [add_block] at this | exact this) GW335.out))) _).trans (hHeld.2.2))))⟩ (fun hHeld => ?_)
                            clear hK K
                            refine pure_ (i := 12) (N := some 14) (v := ?_) (a' := ?_) #[true, true, true, true, true, true, true, true, true, true, true, true, true] rfl rfl (any_of HT_.out (by kernel_rfl)) (fun _ _ _ h => h) (Or.inl ⟨by rfl, ?_⟩) ?_ ?_
                            rotate_left
                            · intro w'
                              go_simp
                              with_reducible rfl
                            rotate_left
                            · simp only [Act.put, List.setIfInBounds_toArray, List.set_cons_zero, List.set_cons_succ, i64_w, i32_w]
                              rfl
                            refine done_ (done_of HT_.out (by kernel_rfl)) ?_
                            have hnb60 := NB335_315.out
                            have hnc60 := NB315_335.out
                            have hnb61 := NB335_316.out
                            have hnc61 := NB316_335.out
                            have hnb62 := NB335_325.out
                            have hnc62 := NB325_335.out
                            have hcz63_0 : w56.cell? ⟨gb335, 0, none⟩ = some (.slice none 0 0) := (blk_cell BK335.out 0).trans rfl
                            have hcz63_1 : w56.cell? ⟨gb335, 1, none⟩ = some (.int .i64 0) := (blk_cell BK335.out 1).trans rfl
                            have hfz63_0 := blk_frozen BK335.out 0
                            have hfz63_1 := blk_frozen BK335.out 1
                            have hcz64_0 : w56.cell? ⟨gb316, 0, none⟩ = some (.slice Ao52 x317000_2.length co52) := (blk_cell BK316.out 0).trans rfl
                            have hcz64_1 : w56.cell? ⟨gb316, 1, none⟩ = some (.int .i64 x317001_2) := (blk_cell BK316.out 1).trans rfl
                            have hfz64_0 := blk_frozen BK316.out 0
                            have hfz64_1 := blk_frozen BK316.out 1
                            try go_wp2
                            go_roundg k2
                            case measure => have := HJ3.out; have := HK2.out; omega
                            case rel => exact ⟨(y326), (wrap64 (x10_2 + 1)), (t320), (t323), (t330), (t333), (.slice Ao43 t320.length co43), (.slice Ao57 t330.length co57), (by first | rfl | (simp; done) | (simp [*]; done)), H', ⟨by have := HJ3.out; have := HK2.out; omega⟩, ⟨by (with_reducible repeat (first | apply Kd.R_alloc | apply Kd.R_drewN | apply Kd.R_drew)); exact Kd.R_mono (Kd.R_far (p := ⟨gb316, 1, none⟩) (Kd.R_far (p := ⟨gb316, 0, none⟩) (Kd.R_far (p := ⟨gb335, 1, none⟩) (Kd.R_far (p := ⟨gb335, 0, none⟩) (Kd.R_types (Kd.R_types HO328.out BK335.out (by decide)) BK316.out (by decide)) (fun _ hk => hk.1.2) (.slice Ao57 t330.length co57)) (fun _ hk => hk.1.2) (.int .i64 t333)) (fun _ hk => hk.2) (.slice Ao57 t330.length co57)) (fun _ hk => hk.2) (.int .i64 t333)) (fun _ hk => trivial)⟩, ⟨by (with_reducible repeat (first | apply Kd.R_alloc | apply Kd.R_drewN | apply Kd.R_drew)); exact Kd.R_mono (Kd.R_far (p := ⟨gb316, 1, none⟩) (Kd.R_far (p := ⟨gb316, 0, none⟩) (Kd.R_far (p := ⟨gb335, 1, none⟩) (Kd.R_far (p := ⟨gb335, 0, none⟩) (Kd.R_types (Kd.R_types HO322.out BK335.out (by decide)) BK316.out (by decide)) (fun _ hk => hk.1.2) (.slice Ao57 t330.length co57)) (fun _ hk => hk.1.2) (.int .i64 t333)) (fun _ hk => hk.2) (.slice Ao57 t330.length co57)) (fun _ hk => hk.2) (.int .i64 t333)) (fun _ hk => hk.1.1.1)⟩, ⟨by (with_reducible repeat (first | apply Kd.R_alloc | apply Kd.R_drewN | apply Kd.R_drew)); exact Kd.R_mono (Kd.R_far (p := ⟨gb316, 1, none⟩) (Kd.R_far (p := ⟨gb316, 0, none⟩) (Kd.R_far (p := ⟨gb335, 1, none⟩) (Kd.R_far (p := ⟨gb335, 0, none⟩) (Kd.R_types (Kd.R_types HO332.out BK335.out (by decide)) BK316.out (by decide)) (fun _ hk => hk.1.2) (.slice Ao57 t330.length co57)) (fun _ hk => hk.1.2) (.int .i64 t333)) (fun _ hk => hk.2) (.slice Ao57 t330.length co57)) (fun _ hk => hk.2) (.int .i64 t333)) (fun _ hk => hk.1.1.1)⟩, ⟨by (with_reducible repeat (first | refine blk_drewN ?_ _ | refine blk_drew ?_ | refine blk_alloc ?_ _)); refine blk_far ?_ NB315_316.out _; (with_reducible repeat (first | refine blk_drewN ?_ _ | refine blk_drew ?_ | refine blk_alloc ?_ _)); refine blk_far ?_ NB315_316.out _; (with_reducible repeat (first | refine blk_drewN ?_ _ | refine blk_drew ?_ | refine blk_alloc ?_ _)); refine blk_far ?_ NB315_335.out _; (with_reducible repeat (first | refine blk_drewN ?_ _ | refine blk_drew ?_ | refine blk_alloc ?_ _)); refine blk_far ?_ NB315_335.out _; (with_reducible repeat (first | refine blk_drewN ?_ _ | refine blk_drew ?_ | refine blk_alloc ?_ _)); exact BK315.out⟩, ⟨by (with_reducible repeat (first | refine blk_drewN ?_ _ | refine blk_drew ?_ | refine blk_alloc ?_ _)); refine blk_put (cs := #[.slice Ao57 t330.length co57, .int .i64 x317001_2]) ?_ 1 _ rfl; (with_reducible repeat (first | refine blk_drewN ?_ _ | refine blk_drew ?_ | refine blk_alloc ?_ _)); refine blk_put (cs := #[.slice Ao52 x317000_2.length co52, .int .i64 x317001_2]) ?_ 0 _ rfl; (with_reducible repeat (first | refine blk_drewN ?_ _ | refine blk_drew ?_ | refine blk_alloc ?_ _)); refine blk_far ?_ NB316_335.out _; (with_reducible repeat (first | refine blk_drewN ?_ _ | refine blk_drew ?_ | refine blk_alloc ?_ _)); refine blk_far ?_ NB316_335.out _; (with_reducible repeat (first | refine blk_drewN ?_ _ | refine blk_drew ?_ | refine blk_alloc ?_ _)); exact BK316.out⟩, ⟨by repeat (first | (with_reducible first | exact HB.out | apply below_alloc | apply pw_below_drewN | apply below_drew1 | refine below_set ?_ GE315.out | refine below_set ?_ GE316.out | refine below_set ?_ GE325.out | refine below_set ?_ GE335.out) | exact HB.out)⟩⟩
                          · rw [if_neg c37] at H
                            have c37b0 : (t334 == 0) = false := beq_eq_false_iff_ne.mpr c37
                            have c37b1 : (t334 != 0) = true := bne_iff_ne.mpr c37
                            obtain rfl := Option.some.inj H
                            exact absurd hT_.out (by decide)
                      · rw [if_neg c20] at H
                        exact absurd H (by simp)
                    · rw [if_neg c19] at H
                      have c19b0 : (t324 == 0) = false := beq_eq_false_iff_ne.mpr c19
                      have c19b1 : (t324 != 0) = true := bne_iff_ne.mpr c19
                      obtain rfl := Option.some.inj H
                      exact absurd hT_.out (by decide)
                · rw [if_neg c15] at H
                  exact absurd H (by simp)
              · rw [if_neg c14] at H
                have c14b0 : decide (x10_2 < (l0.length : Int)) = false := decide_eq_false c14
                clear c14
                replace H := Option.bind_eq_some_iff.mp H
                obtain ⟨⟨t336, t339, t340⟩, A650, H⟩ := H
                replace H : ((sched_Drop.f k2 t336 t339 (Int.tmod (Go.bits .and .i64 a1 65535) (l0.length : Int))).bind fun bt341 => (heronrylaw21_SchedDrops.l1 k2 l0 t314 (Int.tmod (Go.bits .and .i64 a1 65535) (l0.length : Int)) x9_2 t340 bt341.2.2 1 t336 t339 x317000_2 x317001_2)) = some r := H
                have A65 := Aside0.mk A650
                clear A650
                replace H := Option.bind_eq_some_iff.mp H
                obtain ⟨⟨t341, t344, t345⟩, A660, H⟩ := H
                replace H : (heronrylaw21_SchedDrops.l1 k2 l0 t314 (Int.tmod (Go.bits .and .i64 a1 65535) (l0.length : Int)) x9_2 t340 t345 1 t336 t339 x317000_2 x317001_2) = some r := H
                have A66 := Aside0.mk A660
                clear A660
                have H' := Aside0.mk H
                clear H
                have hnb67 := NB315_316.out
                have hnc67 := NB316_315.out
                have hcz68_0 : wr.cell? ⟨gb315, 0, none⟩ = some (u316000) := (blk_cell BK315.out 0).trans rfl
                have hcz68_1 : wr.cell? ⟨gb315, 1, none⟩ = some (.int .i64 x316001_2) := (blk_cell BK315.out 1).trans rfl
                have hfz68_0 := blk_frozen BK315.out 0
                have hfz68_1 := blk_frozen BK315.out 1
                obtain ⟨Ao69, co69, eo69⟩ := Kd.R_slice HO_316000.out
                subst eo69
                go_wp2_with (first | ((with_reducible refine gate_callee (f := 18) rfl ?_); refine goesL_ (some 91) rfl rfl Try.func18 (by kernel_rfl) rfl #[.agg #[.slice Ao69 x316000_2.length co69, .int .i64 x316001_2], .int .i64 (Int.tmod (Go.bits .and .i64 a1 65535) (l0.length : Int))] rfl (by (try simp only [List.map_toArray, List.map_cons, List.map_nil]); first | done | rfl | (simp only [List.length_drop, List.length_take]; rfl)) ?_; (with_reducible refine (sched_Drop.calls k2 _ _ x316000_2 x316001_2 (Int.tmod (Go.bits .and .i64 a1 65535) (l0.length : Int)) t336 t339 t340 _ ?side1 ?side2 A65.out).mono ?_); (case side1 => repeat (first | exact (Kd.R_reads' HO_316000.out).2.2 | (with_reducible refine Kd.C_alloc ?_ _) | (with_reducible refine Kd.C_drewN ?_ _) | (with_reducible refine Kd.C_drew ?_))); (case side2 => exact (Kd.R_reads' HO_316000.out).2.1); rintro e w70 ⟨v337, rfl, ho0, hb⟩; refine ⟨_, rfl, ?_⟩; have n0_ := Aside0.mk (Kd.R_below (by (with_reducible repeat (first | apply Kd.R_alloc | apply Kd.R_drewN | apply Kd.R_drew)); exact HO_9.out) hb); have n1_ := Aside0.mk (Kd.R_elder' (by (with_reducible repeat (first | apply Kd.R_alloc | apply Kd.R_drewN | apply Kd.R_drew)); exact HO_316000.out) (Kd.R_base ho0) hb); have n2_ := Aside0.mk (Kd.R_elder' (by (with_reducible repeat (first | apply Kd.R_alloc | apply Kd.R_drewN | apply Kd.R_drew)); exact HO_317000.out) (Kd.R_base ho0) hb); have n3_ := Aside0.mk (Kd.R_lower (Kd.R_new' (Kd.R_new' ho0 (Kd.R_lt (by (with_reducible repeat (first | apply Kd.R_alloc | apply Kd.R_drewN | apply Kd.R_drew)); exact HO_316000.out))) (Kd.R_lt (by (with_reducible repeat (first | apply Kd.R_alloc | apply Kd.R_drewN | apply Kd.R_drew)); exact HO_317000.out))) (below_size (by repeat (first | (with_reducible first | exact HB.out | apply below_alloc | apply pw_below_drewN | apply below_drew1 | refine below_set ?_ GE315.out | refine below_set ?_ GE316.out) | exact HB.out)))); have n4_ := Aside0.mk (blk_below (g := gb315) (o := .cells #[.slice Ao69 x316000_2.length co69, .int .i64 x316001_2] 26 (0, 0)) (by (with_reducible repeat (first | refine blk_drewN ?_ _ | refine blk_drew ?_ | refine blk_alloc ?_ _)); exact BK315.out) hb); have n5_ := Aside0.mk (blk_below (g := gb316) (o := .cells #[u317000, .int .i64 x317001_2] 26 (0, 0)) (by (with_reducible repeat (first | refine blk_drewN ?_ _ | refine blk_drew ?_ | refine blk_alloc ?_ _)); exact BK316.out) hb); have n6_ := Aside0.mk (below_step (by repeat (first | (with_reducible first | exact HB.out | apply below_alloc | apply pw_below_drewN | apply below_drew1 | refine below_set ?_ GE315.out | refine below_set ?_ GE316.out) | exact HB.out)) hb); clear HO_9; clear HO_316000; clear HO_317000; clear BK315; clear BK316; clear HB; have HO_9 := n0_; have HO_316000 := n1_; have HO_317000 := n2_; have HO338 := n3_; have BK315 := n4_; have BK316 := n5_; have HB := n6_; clear n0_ n1_ n2_ n3_ n4_ n5_ n6_; (try clear hb); (try clear hb2); (try clear hk); (try clear hi); (try clear ho0); obtain ⟨Ao71, co71, eo71⟩ := Kd.R_slice HO338.out; subst eo71; have hcz72_0 : w70.cell? ⟨gb315, 0, none⟩ = some (.slice Ao69 x316000_2.length co69) := (blk_cell BK315.out 0).trans rfl; have hcz72_1 : w70.cell? ⟨gb315, 1, none⟩ = some (.int .i64 x316001_2) := (blk_cell BK315.out 1).trans rfl; have hfz72_0 := blk_frozen BK315.out 0; have hfz72_1 := blk_frozen BK315.out 1) | ((with_reducible refine gate_callee (f := 18) rfl ?_); refine goesL_ (some 97) rfl rfl Try.func18 (by kernel_rfl) rfl #[.agg #[.slice Ao71 t336.length co71, .int .i64 t339], .int .i64 (Int.tmod (Go.bits .and .i64 a1 65535) (l0.length : Int))] rfl (by (try simp only [List.map_toArray, List.map_cons, List.map_nil]); first | done | rfl | (simp only [List.length_drop, List.length_take]; rfl)) ?_; (with_reducible refine (sched_Drop.calls k2 _ _ t336 t339 (Int.tmod (Go.bits .and .i64 a1 65535) (l0.length : Int)) t341 t344 t345 _ ?side1 ?side2 A66.out).mono ?_); (case side1 => refine (Kd.R_reads' (e := 44) (base := w.heap.size) (ok := fun k_ => ((True ∧ some k_ ≠ (.slice Ao69 x316000_2.length co69 : Value).ownBlock) ∧ some k_ ≠ (u317000 : Value).ownBlock)) (n := t336.length) (c := co71) ?_).2.2; exact (by (with_reducible repeat (first | apply Kd.R_alloc | apply Kd.R_drewN | apply Kd.R_drew)); exact (Kd.R_mono (Kd.R_far (p := ⟨gb315, 1, none⟩) (Kd.R_far (p := ⟨gb315, 0, none⟩) (Kd.R_types HO338.out BK315.out (by decide)) (fun _ hk => hk.2) (.slice Ao71 t336.length co71)) (fun _ hk => hk.2) (.int .i64 t339)) (fun _ h_ => h_.1)))); (case side2 => exact (Kd.R_reads' HO338.out).2.1); rintro e w73 ⟨v342, rfl, ho0, hb⟩; refine ⟨_, rfl, ?_⟩; have n0_ := Aside0.mk (Kd.R_below (by (with_reducible repeat (first | apply Kd.R_alloc | apply Kd.R_drewN | apply Kd.R_drew)); exact (Kd.R_mono (Kd.R_far (p := ⟨gb315, 1, none⟩) (Kd.R_far (p := ⟨gb315, 0, none⟩) (Kd.R_types HO_9.out BK315.out (by decide)) (fun _ hk => hk.2) (.slice Ao71 t336.length co71)) (fun _ hk => hk.2) (.int .i64 t339)) (fun _ h_ => h_.1))) hb); have n1_ := Aside0.mk (Kd.R_elder' (by (with_reducible repeat (first | apply Kd.R_alloc | apply Kd.R_drewN | apply Kd.R_drew)); exact (Kd.R_mono (Kd.R_far (p := ⟨gb315, 1, none⟩) (Kd.R_far (p := ⟨gb315, 0, none⟩) (Kd.R_types HO_316000.out BK315.out (by decide)) (fun _ hk => hk.2) (.slice Ao71 t336.length co71)) (fun _ hk => hk.2) (.int .i64 t339)) (fun _ h_ => h_.1))) (Kd.R_base ho0) hb); have n2_ := Aside0.mk (Kd.R_elder' (by (with_reducible repeat (first | apply Kd.R_alloc | apply Kd.R_drewN | apply Kd.R_drew)); exact (Kd.R_mono (Kd.R_far (p := ⟨gb315, 1, none⟩) (Kd.R_far (p := ⟨gb315, 0, none⟩) (Kd.R_types HO_317000.out BK315.out (by decide)) (fun _ hk => hk.2) (.slice Ao71 t336.length co71)) (fun _ hk => hk.2) (.int .i64 t339)) (fun _ h_ => h_.1))) (Kd.R_base ho0) hb); have n3_ := Aside0.mk (Kd.R_elder' (by (with_reducible repeat (first | apply Kd.R_alloc | apply Kd.R_drewN | apply Kd.R_drew)); exact (Kd.R_mono (Kd.R_far (p := ⟨gb315, 1, none⟩) (Kd.R_far (p := ⟨gb315, 0, none⟩) (Kd.R_types HO338.out BK315.out (by decide)) (fun _ hk => hk.2) (.slice Ao71 t336.length co71)) (fun _ hk => hk.2) (.int .i64 t339)) (fun _ h_ => h_.1))) (Kd.R_base ho0) hb); have n4_ := Aside0.mk (Kd.R_lower (Kd.R_new' (Kd.R_new' (Kd.R_new' ho0 (Kd.R_lt (by (with_reducible repeat (first | apply Kd.R_alloc | apply Kd.R_drewN | apply Kd.R_drew)); exact (Kd.R_mono (Kd.R_far (p := ⟨gb315, 1, none⟩) (Kd.R_far (p := ⟨gb315, 0, none⟩) (Kd.R_types HO_316000.out BK315.out (by decide)) (fun _ hk => hk.2) (.slice Ao71 t336.length co71)) (fun _ hk => hk.2) (.int .i64 t339)) (fun _ h_ => h_.1))))) (Kd.R_lt (by (with_reducible repeat (first | apply Kd.R_alloc | apply Kd.R_drewN | apply Kd.R_drew)); exact (Kd.R_mono (Kd.R_far (p := ⟨gb315, 1, none⟩) (Kd.R_far (p := ⟨gb315, 0, none⟩) (Kd.R_types HO_317000.out BK315.out (by decide)) (fun _ hk => hk.2) (.slice Ao71 t336.length co71)) (fun _ hk => hk.2) (.int .i64 t339)) (fun _ h_ => h_.1))))) (Kd.R_lt (by (with_reducible repeat (first | apply Kd.R_alloc | apply Kd.R_drewN | apply Kd.R_drew)); exact (Kd.R_mono (Kd.R_far (p := ⟨gb315, 1, none⟩) (Kd.R_far (p := ⟨gb315, 0, none⟩) (Kd.R_types HO338.out BK315.out (by decide)) (fun _ hk => hk.2) (.slice Ao71 t336.length co71)) (fun _ hk => hk.2) (.int .i64 t339)) (fun _ h_ => h_.1))))) (below_size (by repeat (first | (with_reducible first | exact HB.out | apply below_alloc | apply pw_below_drewN | apply below_drew1 | refine below_set ?_ GE315.out | refine below_set ?_ GE316.out) | exact HB.out)))); have n5_ := Aside0.mk (blk_below (g := gb315) (o := .cells #[.slice Ao71 t336.length co71, .int .i64 t339] 26 (0, 0)) (by (with_reducible repeat (first | refine blk_drewN ?_ _ | refine blk_drew ?_ | refine blk_alloc ?_ _)); refine blk_put (cs := #[.slice Ao71 t336.length co71, .int .i64 x316001_2]) ?_ 1 _ rfl; (with_reducible repeat (first | refine blk_drewN ?_ _ | refine blk_drew ?_ | refine blk_alloc ?_ _)); refine blk_put (cs := #[.slice Ao69 x316000_2.length co69, .int .i64 x316001_2]) ?_ 0 _ rfl; (with_reducible repeat (first | refine blk_drewN ?_ _ | refine blk_drew ?_ | refine blk_alloc ?_ _)); exact BK315.out) hb); have n6_ := Aside0.mk (blk_below (g := gb316) (o := .cells #[u317000, .int .i64 x317001_2] 26 (0, 0)) (by (with_reducible repeat (first | refine blk_drewN ?_ _ | refine blk_drew ?_ | refine blk_alloc ?_ _)); refine blk_far ?_ NB316_315.out _; (with_reducible repeat (first | refine blk_drewN ?_ _ | refine blk_drew ?_ | refine blk_alloc ?_ _)); refine blk_far ?_ NB316_315.out _; (with_reducible repeat (first | refine blk_drewN ?_ _ | refine blk_drew ?_ | refine blk_alloc ?_ _)); exact BK316.out) hb); have n7_ := Aside0.mk (below_step (by repeat (first | (with_reducible first | exact HB.out | apply below_alloc | apply pw_below_drewN | apply below_drew1 | refine below_set ?_ GE315.out | refine below_set ?_ GE316.out) | exact HB.out)) hb); clear HO_9; clear HO_316000; clear HO_317000; clear HO338; clear BK315; clear BK316; clear HB; have HO_9 := n0_; have HO_316000 := n1_; have HO_317000 := n2_; have HO338 := n3_; have HO343 := n4_; have BK315 := n5_; have BK316 := n6_; have HB := n7_; clear n0_ n1_ n2_ n3_ n4_ n5_ n6_ n7_; (try clear hb); (try clear hb2); (try clear hk); (try clear hi); (try clear ho0)) | ((with_reducible refine gate_dst (N := 16) rfl ?_); (try (refine gate_guard (by rfl) ?_; dsimp only)); refine box_event ?hg (N := 16) ?hd (cs := #[.slice none 0 0, .int .i64 0]) (t := 26) ?hr ?_; (case hd => rfl); (case hg => rfl); (case hr => first | (go_simp; done) | (go_simp; rfl)); intro gb346 hg w74 hbox hb; have n0_ := Aside0.mk (Kd.R_below (by (with_reducible repeat (first | apply Kd.R_alloc | apply Kd.R_drewN | apply Kd.R_drew)); exact HO_9.out) hb); have n1_ := Aside0.mk (Kd.R_below (by (with_reducible repeat (first | apply Kd.R_alloc | apply Kd.R_drewN | apply Kd.R_drew)); exact HO_316000.out) hb); have n2_ := Aside0.mk (Kd.R_below (by (with_reducible repeat (first | apply Kd.R_alloc | apply Kd.R_drewN | apply Kd.R_drew)); exact HO_317000.out) hb); have n3_ := Aside0.mk (Kd.R_below (by (with_reducible repeat (first | apply Kd.R_alloc | apply Kd.R_drewN | apply Kd.R_drew)); exact HO338.out) hb); have n4_ := Aside0.mk (Kd.R_below (by (with_reducible repeat (first | apply Kd.R_alloc | apply Kd.R_drewN | apply Kd.R_drew)); exact HO343.out) hb); have n5_ := Aside0.mk (blk_below (g := gb315) (o := .cells #[.slice Ao71 t336.length co71, .int .i64 t339] 26 (0, 0)) (by (with_reducible repeat (first | refine blk_drewN ?_ _ | refine blk_drew ?_ | refine blk_alloc ?_ _)); exact BK315.out) hb); have n6_ := Aside0.mk (blk_below (g := gb316) (o := .cells #[u317000, .int .i64 x317001_2] 26 (0, 0)) (by (with_reducible repeat (first | refine blk_drewN ?_ _ | refine blk_drew ?_ | refine blk_alloc ?_ _)); exact BK316.out) hb); have n7_ := Aside0.mk (below_step (by repeat (first | (with_reducible first | exact HB.out | apply below_alloc | apply pw_below_drewN | apply below_drew1 | refine below_set ?_ GE315.out | refine below_set ?_ GE316.out) | exact HB.out)) hb); have n8_ := Aside0.mk (hbox); have n9_ := Aside0.mk ((by rw [hg]; exact (below_size (by repeat (first | (with_reducible first | exact HB.out | apply below_alloc | apply pw_below_drewN | apply below_drew1 | refine below_set ?_ GE315.out | refine below_set ?_ GE316.out) | exact HB.out))) : w.heap.size ≤ gb346)); have n10_ := Aside0.mk ((by rw [hg]; exact (below_size (by repeat (first | (with_reducible first | exact HB.out | apply below_alloc | apply pw_below_drewN | apply below_drew1 | refine below_set ?_ GE315.out | refine below_set ?_ GE316.out) | exact HB.out))) : w.heap.size ≤ gb346)); have n11_ := Aside0.mk ((by rw [hg]; exact Nat.ne_of_lt (blk_lt (g := gb315) (o := .cells #[.slice Ao71 t336.length co71, .int .i64 t339] 26 (0, 0)) (by (with_reducible repeat (first | refine blk_drewN ?_ _ | refine blk_drew ?_ | refine blk_alloc ?_ _)); exact BK315.out)) : gb315 ≠ gb346)); have n12_ := Aside0.mk ((by rw [hg]; exact Nat.ne_of_gt (blk_lt (g := gb315) (o := .cells #[.slice Ao71 t336.length co71, .int .i64 t339] 26 (0, 0)) (by (with_reducible repeat (first | refine blk_drewN ?_ _ | refine blk_drew ?_ | refine blk_alloc ?_ _)); exact BK315.out)) : gb346 ≠ gb315)); have n13_ := Aside0.mk ((by rw [hg]; exact Nat.ne_of_lt (blk_lt (g := gb316) (o := .cells #[u317000, .int .i64 x317001_2] 26 (0, 0)) (by (with_reducible repeat (first | refine blk_drewN ?_ _ | refine blk_drew ?_ | refine blk_alloc ?_ _)); exact BK316.out)) : gb316 ≠ gb346)); have n14_ := Aside0.mk ((by rw [hg]; exact Nat.ne_of_gt (blk_lt (g := gb316) (o := .cells #[u317000, .int .i64 x317001_2] 26 (0, 0)) (by (with_reducible repeat (first | refine blk_drewN ?_ _ | refine blk_drew ?_ | refine blk_alloc ?_ _)); exact BK316.out)) : gb346 ≠ gb316)); clear HO_9; clear HO_316000; clear HO_317000; clear HO338; clear HO343; clear BK315; clear BK316; clear HB; have HO_9 := n0_; have HO_316000 := n1_; have HO_317000 := n2_; have HO338 := n3_; have HO343 := n4_; have BK315 := n5_; have BK316 := n6_; have HB := n7_; have BK346 := n8_; have GW346 := n9_; have GE346 := n10_; have NB315_346 := n11_; have NB346_315 := n12_; have NB316_346 := n13_; have NB346_316 := n14_; clear n0_ n1_ n2_ n3_ n4_ n5_ n6_ n7_ n8_ n9_ n10_ n11_ n12_ n13_ n14_; clear hb hbox hg; obtain ⟨Ao75, co75, eo75⟩ := Kd.R_slice HO343.out; subst eo75; have hnb76 := NB346_315.out; have hnc76 := NB315_346.out; have hnb77 := NB346_316.out; have hnc77 := NB316_346.out; have hcz78_0 : w74.cell? ⟨gb346, 0, none⟩ = some (.slice none 0 0) := (blk_cell BK346.out 0).trans rfl; have hcz78_1 : w74.cell? ⟨gb346, 1, none⟩ = some (.int .i64 0) := (blk_cell BK346.out 1).trans rfl; have hfz78_0 := blk_frozen BK346.out 0; have hfz78_1 := blk_frozen BK346.out 1))
                go_loopg [18] k2 (fun kq v18 w' => ∃ (x18_3 : Int) (x316000_3 : List (S44)) (x316001_3 : Int) (x317000_3 : List (S44)) (x317001_3 : Int) (u316000 : Value) (u317000 : Value), v18 = .int .i64 x18_3 ∧ Aside0 (heronrylaw21_SchedDrops.l1 kq l0 t314 (Int.tmod (Go.bits .and .i64 a1 65535) (l0.length : Int)) x9_2 t340 t345 x18_3 x316000_3 x316001_3 x317000_3 x317001_3 = some r) ∧ Aside0 (kq ≤ k2) ∧ Aside0 (Kd.R (Kd.int .i64) 3 w' w.heap.size (fun _ => True) u9 x9_2) ∧ Aside0 (Kd.R k44 44 w' w.heap.size (fun k_ => some k_ ≠ (u317000 : Value).ownBlock ∧ some k_ ≠ ((.slice Ao75 t341.length co75) : Value).ownBlock) u316000 x316000_3) ∧ Aside0 (Kd.R k44 44 w' w.heap.size (fun k_ => some k_ ≠ (u316000 : Value).ownBlock ∧ some k_ ≠ ((.slice Ao75 t341.length co75) : Value).ownBlock) u317000 x317000_3) ∧ Aside0 (Kd.R k44 44 w' w.heap.size (fun k_ => some k_ ≠ (u316000 : Value).ownBlock ∧ some k_ ≠ (u317000 : Value).ownBlock) (.slice Ao75 t341.length co75) t341) ∧ Aside0 (w'.heap[gb315]? = some (.cells #[u316000, .int .i64 x316001_3] 26 (0, 0))) ∧ Aside0 (w'.heap[gb316]? = some (.cells #[u317000, .int .i64 x317001_3] 26 (0, 0))) ∧ Aside0 (w'.heap[gb346]? = some (.cells #[(.slice Ao75 t341.length co75), .int .i64 t344] 26 (0, 0))) ∧ Aside0 (Below w.heap.size w w'))
                case atStart => exact ⟨(1), (t336), (t339), (x317000_2), (x317001_2), (.slice Ao71 t336.length co71), (u317000), (by first | rfl | (simp; done) | (simp [*]; done)), H', ⟨Nat.le_refl _⟩, ⟨by (with_reducible repeat (first | apply Kd.R_alloc | apply Kd.R_drewN | apply Kd.R_drew)); exact Kd.R_mono (Kd.R_far (p := ⟨gb346, 1, none⟩) (Kd.R_far (p := ⟨gb346, 0, none⟩) (Kd.R_types HO_9.out BK346.out (by decide)) (fun _ hk => hk.2) (.slice Ao75 t341.length co75)) (fun _ hk => hk.2) (.int .i64 t344)) (fun _ hk => trivial)⟩, ⟨by (with_reducible repeat (first | apply Kd.R_alloc | apply Kd.R_drewN | apply Kd.R_drew)); exact Kd.R_mono (Kd.R_far (p := ⟨gb346, 1, none⟩) (Kd.R_far (p := ⟨gb346, 0, none⟩) (Kd.R_types HO338.out BK346.out (by decide)) (fun _ hk => hk.2) (.slice Ao75 t341.length co75)) (fun _ hk => hk.2) (.int .i64 t344)) (fun _ hk => ⟨hk.1.1.2, hk.1.2⟩)⟩, ⟨by (with_reducible repeat (first | apply Kd.R_alloc | apply Kd.R_drewN | apply Kd.R_drew)); exact Kd.R_mono (Kd.R_far (p := ⟨gb346, 1, none⟩) (Kd.R_far (p := ⟨gb346, 0, none⟩) (Kd.R_types HO_317000.out BK346.out (by decide)) (fun _ hk => hk.2) (.slice Ao75 t341.length co75)) (fun _ hk => hk.2) (.int .i64 t344)) (fun _ hk => ⟨hk.1.1.2, hk.1.2⟩)⟩, ⟨by (with_reducible repeat (first | apply Kd.R_alloc | apply Kd.R_drewN | apply Kd.R_drew)); exact Kd.R_mono (Kd.R_far (p := ⟨gb346, 1, none⟩) (Kd.R_far (p := ⟨gb346, 0, none⟩) (Kd.R_types HO343.out BK346.out (by decide)) (fun _ hk => hk.2) (.slice Ao75 t341.length co75)) (fun _ hk => hk.2) (.int .i64 t344)) (fun _ hk => ⟨hk.1.2, hk.1.1.2⟩)⟩, ⟨by (with_reducible repeat (first | refine blk_drewN ?_ _ | refine blk_drew ?_ | refine blk_alloc ?_ _)); refine blk_far ?_ NB315_346.out _; (with_reducible repeat (first | refine blk_drewN ?_ _ | refine blk_drew ?_ | refine blk_alloc ?_ _)); refine blk_far ?_ NB315_346.out _; (with_reducible repeat (first | refine blk_drewN ?_ _ | refine blk_drew ?_ | refine blk_alloc ?_ _)); exact BK315.out⟩, ⟨by (with_reducible repeat (first | refine blk_drewN ?_ _ | refine blk_drew ?_ | refine blk_alloc ?_ _)); refine blk_far ?_ NB316_346.out _; (with_reducible repeat (first | refine blk_drewN ?_ _ | refine blk_drew ?_ | refine blk_alloc ?_ _)); refine blk_far ?_ NB316_346.out _; (with_reducible repeat (first | refine blk_drewN ?_ _ | refine blk_drew ?_ | refine blk_alloc ?_ _)); exact BK316.out⟩, ⟨by (with_reducible repeat (first | refine blk_drewN ?_ _ | refine blk_drew ?_ | refine blk_alloc ?_ _)); refine blk_put (cs := #[.slice Ao75 t341.length co75, .int .i64 0]) ?_ 1 _ rfl; (with_reducible repeat (first | refine blk_drewN ?_ _ | refine blk_drew ?_ | refine blk_alloc ?_ _)); refine blk_put (cs := #[.slice none 0 0, .int .i64 0]) ?_ 0 _ rfl; (with_reducible repeat (first | refine blk_drewN ?_ _ | refine blk_drew ?_ | refine blk_alloc ?_ _)); exact BK346.out⟩, ⟨by repeat (first | (with_reducible first | exact HB.out | apply below_alloc | apply pw_below_drewN | apply below_drew1 | refine below_set ?_ GE315.out | refine below_set ?_ GE316.out | refine below_set ?_ GE346.out) | exact HB.out)⟩⟩
                case round =>
                  clear H'
                  try clear c1
                  try clear c2
                  try clear p2
                  try clear c3
                  try clear p3
                  try clear q3
                  try clear hx3
                  try clear c4
                  try clear c6
                  try clear p6
                  try clear c7
                  try clear c10
                  try clear c14
                  try clear c14b0
                  try clear c15
                  try clear c18
                  try clear c19
                  try clear c19b0
                  try clear c19b1
                  try clear c20
                  try clear p32
                  try clear q32
                  try clear hx32
                  try clear c37
                  try clear c37b0
                  try clear c37b1
                  try clear c46
                  try clear c47
                  try clear c49
                  try clear c60
                  try clear c61
                  try clear c62
                  try clear p64
                  try clear c67
                  try clear c76
                  try clear c77
                  try clear hcz48_0
                  try clear hcz48_1
                  try clear hcz50_0
                  try clear hcz50_1
                  try clear hcz63_0
                  try clear hcz63_1
                  try clear hcz64_0
                  try clear hcz64_1
                  try clear hcz68_0
                  try clear hcz68_1
                  try clear hcz72_0
                  try clear hcz72_1
                  try clear hcz78_0
                  try clear hcz78_1
                  try clear hfz48_0
                  try clear hfz48_1
                  try clear hfz50_0
                  try clear hfz50_1
                  try clear hfz63_0
                  try clear hfz63_1
                  try clear hfz64_0
                  try clear hfz64_1
                  try clear hfz68_0
                  try clear hfz68_1
                  try clear hfz72_0
                  try clear hfz72_1
                  try clear hfz78_0
                  try clear hfz78_1
                  try clear hx329_0
                  try clear p329
                  try clear q329
                  obtain ⟨x18_3, x316000_3, x316001_3, x317000_3, x317001_3, u316000, u317000, rfl, HA, HK3, HO_9, HO_316000, HO_317000, HO_347000, BK315, BK316, BK346, HB⟩ := hrel
                  cases gk with
                  | zero => exact absurd HA.out (by simp [heronrylaw21_SchedDrops.l1])
                  | succ k3 =>
                    have H := HA.out
                    clear HA
                    simp only [heronrylaw21_SchedDrops.l1] at H
                    by_cases c79 : x18_3 < (l0.length : Int)
                    · rw [if_pos c79] at H
                      have c79b0 : decide (x18_3 < (l0.length : Int)) = true := decide_eq_true c79
                      clear c79
                      replace H := Option.bind_eq_some_iff.mp H
                      obtain ⟨⟨t347, t350, t351, t352⟩, A800, H⟩ := H
                      replace H : ((sched_Pick.f k3 x317000_3 x317001_3 x9_2).bind fun bt354 => (if t352 = 0 then (if bt354.2.2.2 = 0 then (if t351 = bt354.2.2.1 then (if t351 = (Int.tmod (Go.bits .and .i64 a1 65535) (l0.length : Int)) then (some false) else (heronrylaw21_SchedDrops.l1 k3 l0 t314 (Int.tmod (Go.bits .and .i64 a1 65535) (l0.length : Int)) x9_2 t340 t345 (wrap64 (x18_3 + 1)) t347 t350 bt354.1 bt354.2.1)) else (some false)) else (some false)) else (some false))) = some r := H
                      have A80 := Aside0.mk A800
                      clear A800
                      replace H := Option.bind_eq_some_iff.mp H
                      obtain ⟨⟨t354, t357, t358, t359⟩, A810, H⟩ := H
                      replace H : (if t352 = 0 then (if t359 = 0 then (if t351 = t358 then (if t351 = (Int.tmod (Go.bits .and .i64 a1 65535) (l0.length : Int)) then (some false) else (heronrylaw21_SchedDrops.l1 k3 l0 t314 (Int.tmod (Go.bits .and .i64 a1 65535) (l0.length : Int)) x9_2 t340 t345 (wrap64 (x18_3 + 1)) t347 t350 t354 t357)) else (some false)) else (some false)) else (some false)) = some r := H
                      have A81 := Aside0.mk A810
                      clear A810
                      by_cases c82 : t352 = 0
                      · rw [if_pos c82] at H
                        have c82b0 : (t352 == 0) = true := beq_iff_eq.mpr c82
                        have c82b1 : (t352 != 0) = false := bne_eq_false_iff_eq.mpr c82
                        clear c82
                        by_cases c83 : t359 = 0
                        · rw [if_pos c83] at H
                          have c83b0 : (t359 == 0) = true := beq_iff_eq.mpr c83
                          have c83b1 : (t359 != 0) = false := bne_eq_false_iff_eq.mpr c83
                          clear c83
                          by_cases c84 : t351 = t358
                          · rw [if_pos c84] at H
                            have c84b0 : (t351 == t358) = true := beq_iff_eq.mpr c84
                            have c84b1 : (t351 != t358) = false := bne_eq_false_iff_eq.mpr c84
                            clear c84
                            by_cases c85 : t351 = (Int.tmod (Go.bits .and .i64 a1 65535) (l0.length : Int))
                            · rw [if_pos c85] at H
                              have c85b0 : (t351 == (Int.tmod (Go.bits .and .i64 a1 65535) (l0.length : Int))) = true := beq_iff_eq.mpr c85
                              have c85b1 : (t351 != (Int.tmod (Go.bits .and .i64 a1 65535) (l0.length : Int))) = false := bne_eq_false_iff_eq.mpr c85
                              clear c85
                              obtain rfl := Option.some.inj H
                              exact absurd hT_.out (by decide)
                            · rw [if_neg c85] at H
                              have c85b0 : (t351 == (Int.tmod (Go.bits .and .i64 a1 65535) (l0.length : Int))) = false := beq_eq_false_iff_ne.mpr c85
                              have c85b1 : (t351 != (Int.tmod (Go.bits .and .i64 a1 65535) (l0.length : Int))) = true := bne_iff_ne.mpr c85
                              have H' := Aside0.mk H
                              clear H
                              have hnb86 := NB315_316.out
                              have hnc86 := NB316_315.out
                              have hnb87 := NB315_346.out
                              have hnc87 := NB346_315.out
                              have hcz88_0 : wr.cell? ⟨gb315, 0, none⟩ = some (u316000) := (blk_cell BK315.out 0).trans rfl
                              have hcz88_1 : wr.cell? ⟨gb315, 1, none⟩ = some (.int .i64 x316001_3) := (blk_cell BK315.out 1).trans rfl
                              have hfz88_0 := blk_frozen BK315.out 0
                              have hfz88_1 := blk_frozen BK315.out 1
                              obtain ⟨Ao89, co89, eo89⟩ := Kd.R_slice HO_316000.out
                              subst eo89
                              obtain ⟨Ao90, co90, eo90⟩ := Kd.R_slice HO_9.out
                              subst eo90
                              go_wp2_with (first | ((with_reducible refine gate_callee (f := 11) rfl ?_); refine goesL_ (some 109) rfl rfl Try.func11 (by kernel_rfl) rfl #[.agg #[.slice Ao89 x316000_3.length co89, .int .i64 x316001_3], .slice Ao90 x9_2.length co90] rfl (by (try simp only [List.map_toArray, List.map_cons, List.map_nil]); first | done | rfl | (simp only [List.length_drop, List.length_take]; rfl)) ?_; (with_reducible refine (sched_Pick.calls k3 _ _ x316000_3 x316001_3 _ _ x9_2 t347 t350 t351 t352 _ ?side1 ?side2 ?side3 ?side4 A80.out).mono ?_); (case side1 => repeat (first | exact (Kd.R_reads' HO_316000.out).2.2 | (with_reducible refine Kd.C_alloc ?_ _) | (with_reducible refine Kd.C_drewN ?_ _) | (with_reducible refine Kd.C_drew ?_))); (case side2 => exact (Kd.R_reads' HO_316000.out).2.1); (case side3 => repeat (first | exact (Kd.R_reads' HO_9.out).2.2 | (with_reducible refine Kd.C_alloc ?_ _) | (with_reducible refine Kd.C_drewN ?_ _) | (with_reducible refine Kd.C_drew ?_))); (case side4 => exact (Kd.R_reads' HO_9.out).2.1); rintro e w91 ⟨v348, rfl, ho0, hb⟩; refine ⟨_, rfl, ?_⟩; have n0_ := Aside0.mk (Kd.R_below (by (with_reducible repeat (first | apply Kd.R_alloc | apply Kd.R_drewN | apply Kd.R_drew)); exact HO_9.out) hb); have n1_ := Aside0.mk (Kd.R_elder' (by (with_reducible repeat (first | apply Kd.R_alloc | apply Kd.R_drewN | apply Kd.R_drew)); exact HO_316000.out) (Kd.R_base ho0) hb); have n2_ := Aside0.mk (Kd.R_elder' (by (with_reducible repeat (first | apply Kd.R_alloc | apply Kd.R_drewN | apply Kd.R_drew)); exact HO_317000.out) (Kd.R_base ho0) hb); have n3_ := Aside0.mk (Kd.R_elder' (by (with_reducible repeat (first | apply Kd.R_alloc | apply Kd.R_drewN | apply Kd.R_drew)); exact HO_347000.out) (Kd.R_base ho0) hb); have n4_ := Aside0.mk (Kd.R_lower (Kd.R_new' (Kd.R_new' (Kd.R_new' ho0 (Kd.R_lt (by (with_reducible repeat (first | apply Kd.R_alloc | apply Kd.R_drewN | apply Kd.R_drew)); exact HO_316000.out))) (Kd.R_lt (by (with_reducible repeat (first | apply Kd.R_alloc | apply Kd.R_drewN | apply Kd.R_drew)); exact HO_317000.out))) (Kd.R_lt (by (with_reducible repeat (first | apply Kd.R_alloc | apply Kd.R_drewN | apply Kd.R_drew)); exact HO_347000.out))) (below_size (by repeat (first | (with_reducible first | exact HB.out | apply below_alloc | apply pw_below_drewN | apply below_drew1 | refine below_set ?_ GE315.out | refine below_set ?_ GE316.out | refine below_set ?_ GE346.out) | exact HB.out)))); have n5_ := Aside0.mk (blk_below (g := gb315) (o := .cells #[.slice Ao89 x316000_3.length co89, .int .i64 x316001_3] 26 (0, 0)) (by (with_reducible repeat (first | refine blk_drewN ?_ _ | refine blk_drew ?_ | refine blk_alloc ?_ _)); exact BK315.out) hb); have n6_ := Aside0.mk (blk_below (g := gb316) (o := .cells #[u317000, .int .i64 x317001_3] 26 (0, 0)) (by (with_reducible repeat (first | refine blk_drewN ?_ _ | refine blk_drew ?_ | refine blk_alloc ?_ _)); exact BK316.out) hb); have n7_ := Aside0.mk (blk_below (g := gb346) (o := .cells #[.slice Ao75 t341.length co75, .int .i64 t344] 26 (0, 0)) (by (with_reducible repeat (first | refine blk_drewN ?_ _ | refine blk_drew ?_ | refine blk_alloc ?_ _)); exact BK346.out) hb); have n8_ := Aside0.mk (below_step (by repeat (first | (with_reducible first | exact HB.out | apply below_alloc | apply pw_below_drewN | apply below_drew1 | refine below_set ?_ GE315.out | refine below_set ?_ GE316.out | refine below_set ?_ GE346.out) | exact HB.out)) hb); clear HO_9; clear HO_316000; clear HO_317000; clear HO_347000; clear BK315; clear BK316; clear BK346; clear HB; have HO_9 := n0_; have HO_316000 := n1_; have HO_317000 := n2_; have HO_347000 := n3_; have HO349 := n4_; have BK315 := n5_; have BK316 := n6_; have BK346 := n7_; have HB := n8_; clear n0_ n1_ n2_ n3_ n4_ n5_ n6_ n7_ n8_; (try clear hb); (try clear hb2); (try clear hk); (try clear hi); (try clear ho0)) | ((with_reducible refine gate_dst (N := 19) rfl ?_); (try (refine gate_guard (by rfl) ?_; dsimp only)); refine box_event ?hg (N := 19) ?hd (cs := #[.slice none 0 0, .int .i64 0]) (t := 26) ?hr ?_; (case hd => rfl); (case hg => rfl); (case hr => first | (go_simp; done) | (go_simp; rfl)); intro gb353 hg w92 hbox hb; have n0_ := Aside0.mk (Kd.R_below (by (with_reducible repeat (first | apply Kd.R_alloc | apply Kd.R_drewN | apply Kd.R_drew)); exact HO_9.out) hb); have n1_ := Aside0.mk (Kd.R_below (by (with_reducible repeat (first | apply Kd.R_alloc | apply Kd.R_drewN | apply Kd.R_drew)); exact HO_316000.out) hb); have n2_ := Aside0.mk (Kd.R_below (by (with_reducible repeat (first | apply Kd.R_alloc | apply Kd.R_drewN | apply Kd.R_drew)); exact HO_317000.out) hb); have n3_ := Aside0.mk (Kd.R_below (by (with_reducible repeat (first | apply Kd.R_alloc | apply Kd.R_drewN | apply Kd.R_drew)); exact HO_347000.out) hb); have n4_ := Aside0.mk (Kd.R_below (by (with_reducible repeat (first | apply Kd.R_alloc | apply Kd.R_drewN | apply Kd.R_drew)); exact HO349.out) hb); have n5_ := Aside0.mk (blk_below (g := gb315) (o := .cells #[.slice Ao89 x316000_3.length co89, .int .i64 x316001_3] 26 (0, 0)) (by (with_reducible repeat (first | refine blk_drewN ?_ _ | refine blk_drew ?_ | refine blk_alloc ?_ _)); exact BK315.out) hb); have n6_ := Aside0.mk (blk_below (g := gb316) (o := .cells #[u317000, .int .i64 x317001_3] 26 (0, 0)) (by (with_reducible repeat (first | refine blk_drewN ?_ _ | refine blk_drew ?_ | refine blk_alloc ?_ _)); exact BK316.out) hb); have n7_ := Aside0.mk (blk_below (g := gb346) (o := .cells #[.slice Ao75 t341.length co75, .int .i64 t344] 26 (0, 0)) (by (with_reducible repeat (first | refine blk_drewN ?_ _ | refine blk_drew ?_ | refine blk_alloc ?_ _)); exact BK346.out) hb); have n8_ := Aside0.mk (below_step (by repeat (first | (with_reducible first | exact HB.out | apply below_alloc | apply pw_below_drewN | apply below_drew1 | refine below_set ?_ GE315.out | refine below_set ?_ GE316.out | refine below_set ?_ GE346.out) | exact HB.out)) hb); have n9_ := Aside0.mk (hbox); have n10_ := Aside0.mk ((by rw [hg]; exact (below_size (by repeat (first | (with_reducible first | exact HB.out | apply below_alloc | apply pw_below_drewN | apply below_drew1 | refine below_set ?_ GE315.out | refine below_set ?_ GE316.out | refine below_set ?_ GE346.out) | exact HB.out))) : w.heap.size ≤ gb353)); have n11_ := Aside0.mk ((by rw [hg]; exact (below_size (by repeat (first | (with_reducible first | exact HB.out | apply below_alloc | apply pw_below_drewN | apply below_drew1 | refine below_set ?_ GE315.out | refine below_set ?_ GE316.out | refine below_set ?_ GE346.out) | exact HB.out))) : w.heap.size ≤ gb353)); have n12_ := Aside0.mk ((by rw [hg]; exact Nat.ne_of_lt (blk_lt (g := gb315) (o := .cells #[.slice Ao89 x316000_3.length co89, .int .i64 x316001_3] 26 (0, 0)) (by (with_reducible repeat (first | refine blk_drewN ?_ _ | refine blk_drew ?_ | refine blk_alloc ?_ _)); exact BK315.out)) : gb315 ≠ gb353)); have n13_ := Aside0.mk ((by rw [hg]; exact Nat.ne_of_gt (blk_lt (g := gb315) (o := .cells #[.slice Ao89 x316000_3.length co89, .int .i64 x316001_3] 26 (0, 0)) (by (with_reducible repeat (first | refine blk_drewN ?_ _ | refine blk_drew ?_ | refine blk_alloc ?_ _)); exact BK315.out)) : gb353 ≠ gb315)); have n14_ := Aside0.mk ((by rw [hg]; exact Nat.ne_of_lt (blk_lt (g := gb316) (o := .cells #[u317000, .int .i64 x317001_3] 26 (0, 0)) (by (with_reducible repeat (first | refine blk_drewN ?_ _ | refine blk_drew ?_ | refine blk_alloc ?_ _)); exact BK316.out)) : gb316 ≠ gb353)); have n15_ := Aside0.mk ((by rw [hg]; exact Nat.ne_of_gt (blk_lt (g := gb316) (o := .cells #[u317000, .int .i64 x317001_3] 26 (0, 0)) (by (with_reducible repeat (first | refine blk_drewN ?_ _ | refine blk_drew ?_ | refine blk_alloc ?_ _)); exact BK316.out)) : gb353 ≠ gb316)); have n16_ := Aside0.mk ((by rw [hg]; exact Nat.ne_of_lt (blk_lt (g := gb346) (o := .cells #[.slice Ao75 t341.length co75, .int .i64 t344] 26 (0, 0)) (by (with_reducible repeat (first | refine blk_drewN ?_ _ | refine blk_drew ?_ | refine blk_alloc ?_ _)); exact BK346.out)) : gb346 ≠ gb353)); have n17_ := Aside0.mk ((by rw [hg]; exact Nat.ne_of_gt (blk_lt (g := gb346) (o := .cells #[.slice Ao75 t341.length co75, .int .i64 t344] 26 (0, 0)) (by (with_reducible repeat (first | refine blk_drewN ?_ _ | refine blk_drew ?_ | refine blk_alloc ?_ _)); exact BK346.out)) : gb353 ≠ gb346)); clear HO_9; clear HO_316000; clear HO_317000; clear HO_347000; clear HO349; clear BK315; clear BK316; clear BK346; clear HB; have HO_9 := n0_; have HO_316000 := n1_; have HO_317000 := n2_; have HO_347000 := n3_; have HO349 := n4_; have BK315 := n5_; have BK316 := n6_; have BK346 := n7_; have HB := n8_; have BK353 := n9_; have GW353 := n10_; have GE353 := n11_; have NB315_353 := n12_; have NB353_315 := n13_; have NB316_353 := n14_; have NB353_316 := n15_; have NB346_353 := n16_; have NB353_346 := n17_; clear n0_ n1_ n2_ n3_ n4_ n5_ n6_ n7_ n8_ n9_ n10_ n11_ n12_ n13_ n14_ n15_ n16_ n17_; clear hb hbox hg; obtain ⟨Ao93, co93, eo93⟩ := Kd.R_slice HO349.out; subst eo93; have hnb94 := NB353_315.out; have hnc94 := NB315_353.out; have hnb95 := NB353_316.out; have hnc95 := NB316_353.out; have hnb96 := NB353_346.out; have hnc96 := NB346_353.out; have hcz97_0 : w92.cell? ⟨gb353, 0, none⟩ = some (.slice none 0 0) := (blk_cell BK353.out 0).trans rfl; have hcz97_1 : w92.cell? ⟨gb353, 1, none⟩ = some (.int .i64 0) := (blk_cell BK353.out 1).trans rfl; have hfz97_0 := blk_frozen BK353.out 0; have hfz97_1 := blk_frozen BK353.out 1; have hnb98 := NB316_346.out; have hnc98 := NB346_316.out; have hcz99_0 : w92.cell? ⟨gb316, 0, none⟩ = some (u317000) := (blk_cell BK316.out 0).trans rfl; have hcz99_1 : w92.cell? ⟨gb316, 1, none⟩ = some (.int .i64 x317001_3) := (blk_cell BK316.out 1).trans rfl; have hfz99_0 := blk_frozen BK316.out 0; have hfz99_1 := blk_frozen BK316.out 1; obtain ⟨Ao100, co100, eo100⟩ := Kd.R_slice HO_317000.out; subst eo100) | ((with_reducible refine gate_callee (f := 11) rfl ?_); refine goesL_ (some 116) rfl rfl Try.func11 (by kernel_rfl) rfl #[.agg #[.slice Ao100 x317000_3.length co100, .int .i64 x317001_3], .slice Ao90 x9_2.length co90] rfl (by (try simp only [List.map_toArray, List.map_cons, List.map_nil]); first | done | rfl | (simp only [List.length_drop, List.length_take]; rfl)) ?_; (with_reducible refine (sched_Pick.calls k3 _ _ x317000_3 x317001_3 _ _ x9_2 t354 t357 t358 t359 _ ?side1 ?side2 ?side3 ?side4 A81.out).mono ?_); (case side1 => refine (Kd.R_reads' (e := 44) (base := w.heap.size) (ok := fun k_ => ((some k_ ≠ (.slice Ao89 x316000_3.length co89 : Value).ownBlock ∧ some k_ ≠ (.slice Ao75 t341.length co75 : Value).ownBlock) ∧ some k_ ≠ (.slice Ao93 t347.length co93 : Value).ownBlock)) (n := x317000_3.length) (c := co100) ?_).2.2; exact (by (with_reducible repeat (first | apply Kd.R_alloc | apply Kd.R_drewN | apply Kd.R_drew)); exact (Kd.R_mono (Kd.R_far (p := ⟨gb353, 1, none⟩) (Kd.R_far (p := ⟨gb353, 0, none⟩) (Kd.R_types HO_317000.out BK353.out (by decide)) (fun _ hk => hk.2) (.slice Ao93 t347.length co93)) (fun _ hk => hk.2) (.int .i64 t350)) (fun _ h_ => h_.1)))); (case side2 => exact (Kd.R_reads' HO_317000.out).2.1); (case side3 => refine (Kd.R_reads' (e := 3) (base := w.heap.size) (ok := fun k_ => True) (n := x9_2.length) (c := co90) ?_).2.2; exact (by (with_reducible repeat (first | apply Kd.R_alloc | apply Kd.R_drewN | apply Kd.R_drew)); exact (Kd.R_mono (Kd.R_far (p := ⟨gb353, 1, none⟩) (Kd.R_far (p := ⟨gb353, 0, none⟩) (Kd.R_types HO_9.out BK353.out (by decide)) (fun _ hk => hk.2) (.slice Ao93 t347.length co93)) (fun _ hk => hk.2) (.int .i64 t350)) (fun _ h_ => h_.1)))); (case side4 => exact (Kd.R_reads' HO_9.out).2.1); rintro e w101 ⟨v355, rfl, ho0, hb⟩; refine ⟨_, rfl, ?_⟩; have n0_ := Aside0.mk (Kd.R_below (by (with_reducible repeat (first | apply Kd.R_alloc | apply Kd.R_drewN | apply Kd.R_drew)); exact (Kd.R_mono (Kd.R_far (p := ⟨gb353, 1, none⟩) (Kd.R_far (p := ⟨gb353, 0, none⟩) (Kd.R_types HO_9.out BK353.out (by decide)) (fun _ hk => hk.2) (.slice Ao93 t347.length co93)) (fun _ hk => hk.2) (.int .i64 t350)) (fun _ h_ => h_.1))) hb); have n1_ := Aside0.mk (Kd.R_elder' (by (with_reducible repeat (first | apply Kd.R_alloc | apply Kd.R_drewN | apply Kd.R_drew)); exact (Kd.R_mono (Kd.R_far (p := ⟨gb353, 1, none⟩) (Kd.R_far (p := ⟨gb353, 0, none⟩) (Kd.R_types HO_316000.out BK353.out (by decide)) (fun _ hk => hk.2) (.slice Ao93 t347.length co93)) (fun _ hk => hk.2) (.int .i64 t350)) (fun _ h_ => h_.1))) (Kd.R_base ho0) hb); have n2_ := Aside0.mk (Kd.R_elder' (by (with_reducible repeat (first | apply Kd.R_alloc | apply Kd.R_drewN | apply Kd.R_drew)); exact (Kd.R_mono (Kd.R_far (p := ⟨gb353, 1, none⟩) (Kd.R_far (p := ⟨gb353, 0, none⟩) (Kd.R_types HO_317000.out BK353.out (by decide)) (fun _ hk => hk.2) (.slice Ao93 t347.length co93)) (fun _ hk => hk.2) (.int .i64 t350)) (fun _ h_ => h_.1))) (Kd.R_base ho0) hb); have n3_ := Aside0.mk (Kd.R_elder' (by (with_reducible repeat (first | apply Kd.R_alloc | apply Kd.R_drewN | apply Kd.R_drew)); exact (Kd.R_mono (Kd.R_far (p := ⟨gb353, 1, none⟩) (Kd.R_far (p := ⟨gb353, 0, none⟩) (Kd.R_types HO_347000.out BK353.out (by decide)) (fun _ hk => hk.2) (.slice Ao93 t347.length co93)) (fun _ hk => hk.2) (.int .i64 t350)) (fun _ h_ => h_.1))) (Kd.R_base ho0) hb); have n4_ := Aside0.mk (Kd.R_elder' (by (with_reducible repeat (first | apply Kd.R_alloc | apply Kd.R_drewN | apply Kd.R_drew)); exact (Kd.R_mono (Kd.R_far (p := ⟨gb353, 1, none⟩) (Kd.R_far (p := ⟨gb353, 0, none⟩) (Kd.R_types HO349.out BK353.out (by decide)) (fun _ hk => hk.2) (.slice Ao93 t347.length co93)) (fun _ hk => hk.2) (.int .i64 t350)) (fun _ h_ => h_.1))) (Kd.R_base ho0) hb); have n5_ := Aside0.mk (Kd.R_lower (Kd.R_new' (Kd.R_new' (Kd.R_new' (Kd.R_new' ho0 (Kd.R_lt (by (with_reducible repeat (first | apply Kd.R_alloc | apply Kd.R_drewN | apply Kd.R_drew)); exact (Kd.R_mono (Kd.R_far (p := ⟨gb353, 1, none⟩) (Kd.R_far (p := ⟨gb353, 0, none⟩) (Kd.R_types HO_316000.out BK353.out (by decide)) (fun _ hk => hk.2) (.slice Ao93 t347.length co93)) (fun _ hk => hk.2) (.int .i64 t350)) (fun _ h_ => h_.1))))) (Kd.R_lt (by (with_reducible repeat (first | apply Kd.R_alloc | apply Kd.R_drewN | apply Kd.R_drew)); exact (Kd.R_mono (Kd.R_far (p := ⟨gb353, 1, none⟩) (Kd.R_far (p := ⟨gb353, 0, none⟩) (Kd.R_types HO_317000.out BK353.out (by decide)) (fun _ hk => hk.2) (.slice Ao93 t347.length co93)) (fun _ hk => hk.2) (.int .i64 t350)) (fun _ h_ => h_.1))))) (Kd.R_lt (by (with_reducible repeat (first | apply Kd.R_alloc | apply Kd.R_drewN | apply Kd.R_drew)); exact (Kd.R_mono (Kd.R_far (p := ⟨gb353, 1, none⟩) (Kd.R_far (p := ⟨gb353, 0, none⟩) (Kd.R_types HO_347000.out BK353.out (by decide)) (fun _ hk => hk.2) (.slice Ao93 t347.length co93)) (fun _ hk => hk.2) (.int .i64 t350)) (fun _ h_ => h_.1))))) (Kd.R_lt (by (with_reducible repeat (first | apply Kd.R_alloc | apply Kd.R_drewN | apply Kd.R_drew)); exact (Kd.R_mono (Kd.R_far (p := ⟨gb353, 1, none⟩) (Kd.R_far (p := ⟨gb353, 0, none⟩) (Kd.R_types HO349.out BK353.out (by decide)) (fun _ hk => hk.2) (.slice Ao93 t347.length co93)) (fun _ hk => hk.2) (.int .i64 t350)) (fun _ h_ => h_.1))))) (below_size (by repeat (first | (with_reducible first | exact HB.out | apply below_alloc | apply pw_below_drewN | apply below_drew1 | refine below_set ?_ GE315.out | refine below_set ?_ GE316.out | refine below_set ?_ GE346.out | refine below_set ?_ GE353.out) | exact HB.out)))); have n6_ := Aside0.mk (blk_below (g := gb315) (o := .cells #[.slice Ao89 x316000_3.length co89, .int .i64 x316001_3] 26 (0, 0)) (by (with_reducible repeat (first | refine blk_drewN ?_ _ | refine blk_drew ?_ | refine blk_alloc ?_ _)); refine blk_far ?_ NB315_353.out _; (with_reducible repeat (first | refine blk_drewN ?_ _ | refine blk_drew ?_ | refine blk_alloc ?_ _)); refine blk_far ?_ NB315_353.out _; (with_reducible repeat (first | refine blk_drewN ?_ _ | refine blk_drew ?_ | refine blk_alloc ?_ _)); exact BK315.out) hb); have n7_ := Aside0.mk (blk_below (g := gb316) (o := .cells #[.slice Ao100 x317000_3.length co100, .int .i64 x317001_3] 26 (0, 0)) (by (with_reducible repeat (first | refine blk_drewN ?_ _ | refine blk_drew ?_ | refine blk_alloc ?_ _)); refine blk_far ?_ NB316_353.out _; (with_reducible repeat (first | refine blk_drewN ?_ _ | refine blk_drew ?_ | refine blk_alloc ?_ _)); refine blk_far ?_ NB316_353.out _; (with_reducible repeat (first | refine blk_drewN ?_ _ | refine blk_drew ?_ | refine blk_alloc ?_ _)); exact BK316.out) hb); have n8_ := Aside0.mk (blk_below (g := gb346) (o := .cells #[.slice Ao75 t341.length co75, .int .i64 t344] 26 (0, 0)) (by (with_reducible repeat (first | refine blk_drewN ?_ _ | refine blk_drew ?_ | refine blk_alloc ?_ _)); refine blk_far ?_ NB346_353.out _; (with_reducible repeat (first | refine blk_drewN ?_ _ | refine blk_drew ?_ | refine blk_alloc ?_ _)); refine blk_far ?_ NB346_353.out _; (with_reducible repeat (first | refine blk_drewN ?_ _ | refine blk_drew ?_ | refine blk_alloc ?_ _)); exact BK346.out) hb); have n9_ := Aside0.mk (blk_below (g := gb353) (o := .cells #[.slice Ao93 t347.length co93, .int .i64 t350] 26 (0, 0)) (by (with_reducible repeat (first | refine blk_drewN ?_ _ | refine blk_drew ?_ | refine blk_alloc ?_ _)); refine blk_put (cs := #[.slice Ao93 t347.length co93, .int .i64 0]) ?_ 1 _ rfl; (with_reducible repeat (first | refine blk_drewN ?_ _ | refine blk_drew ?_ | refine blk_alloc ?_ _)); refine blk_put (cs := #[.slice none 0 0, .int .i64 0]) ?_ 0 _ rfl; (with_reducible repeat (first | refine blk_drewN ?_ _ | refine blk_drew ?_ | refine blk_alloc ?_ _)); exact BK353.out) hb); have n10_ := Aside0.mk (below_step (by repeat (first | (with_reducible first | exact HB.out | apply below_alloc | apply pw_below_drewN | apply below_drew1 | refine below_set ?_ GE315.out | refine below_set ?_ GE316.out | refine below_set ?_ GE346.out | refine below_set ?_ GE353.out) | exact HB.out)) hb); clear HO_9; clear HO_316000; clear HO_317000; clear HO_347000; clear HO349; clear BK315; clear BK316; clear BK346; clear BK353; clear HB; have HO_9 := n0_; have HO_316000 := n1_; have HO_317000 := n2_; have HO_347000 := n3_; have HO349 := n4_; have HO356 := n5_; have BK315 := n6_; have BK316 := n7_; have BK346 := n8_; have BK353 := n9_; have HB := n10_; clear n0_ n1_ n2_ n3_ n4_ n5_ n6_ n7_ n8_ n9_ n10_; (try clear hb); (try clear hb2); (try clear hk); (try clear hi); (try clear ho0)) | ((with_reducible refine gate_dst (N := 22) rfl ?_); (try (refine gate_guard (by rfl) ?_; dsimp only)); refine box_event ?hg (N := 22) ?hd (cs := #[.slice none 0 0, .int .i64 0]) (t := 26) ?hr ?_; (case hd => rfl); (case hg => rfl); (case hr => first | (go_simp; done) | (go_simp; rfl)); intro gb360 hg w102 hbox hb; have n0_ := Aside0.mk (Kd.R_below (by (with_reducible repeat (first | apply Kd.R_alloc | apply Kd.R_drewN | apply Kd.R_drew)); exact HO_9.out) hb); have n1_ := Aside0.mk (Kd.R_below (by (with_reducible repeat (first | apply Kd.R_alloc | apply Kd.R_drewN | apply Kd.R_drew)); exact HO_316000.out) hb); have n2_ := Aside0.mk (Kd.R_below (by (with_reducible repeat (first | apply Kd.R_alloc | apply Kd.R_drewN | apply Kd.R_drew)); exact HO_317000.out) hb); have n3_ := Aside0.mk (Kd.R_below (by (with_reducible repeat (first | apply Kd.R_alloc | apply Kd.R_drewN | apply Kd.R_drew)); exact HO_347000.out) hb); have n4_ := Aside0.mk (Kd.R_below (by (with_reducible repeat (first | apply Kd.R_alloc | apply Kd.R_drewN | apply Kd.R_drew)); exact HO349.out) hb); have n5_ := Aside0.mk (Kd.R_below (by (with_reducible repeat (first | apply Kd.R_alloc | apply Kd.R_drewN | apply Kd.R_drew)); exact HO356.out) hb); have n6_ := Aside0.mk (blk_below (g := gb315) (o := .cells #[.slice Ao89 x316000_3.length co89, .int .i64 x316001_3] 26 (0, 0)) (by (with_reducible repeat (first | refine blk_drewN ?_ _ | refine blk_drew ?_ | refine blk_alloc ?_ _)); exact BK315.out) hb); have n7_ := Aside0.mk (blk_below (g := gb316) (o := .cells #[.slice Ao100 x317000_3.length co100, .int .i64 x317001_3] 26 (0, 0)) (by (with_reducible repeat (first | refine blk_drewN ?_ _ | refine blk_drew ?_ | refine blk_alloc ?_ _)); exact BK316.out) hb); have n8_ := Aside0.mk (blk_below (g := gb346) (o := .cells #[.slice Ao75 t341.length co75, .int .i64 t344] 26 (0, 0)) (by (with_reducible repeat (first | refine blk_drewN ?_ _ | refine blk_drew ?_ | refine blk_alloc ?_ _)); exact BK346.out) hb); have n9_ := Aside0.mk (blk_below (g := gb353) (o := .cells #[.slice Ao93 t347.length co93, .int .i64 t350] 26 (0, 0)) (by (with_reducible repeat (first | refine blk_drewN ?_ _ | refine blk_drew ?_ | refine blk_alloc ?_ _)); exact BK353.out) hb); have n10_ := Aside0.mk (below_step (by repeat (first | (with_reducible first | exact HB.out | apply below_alloc | apply pw_below_drewN | apply below_drew1 | refine below_set ?_ GE315.out | refine below_set ?_ GE316.out | refine below_set ?_ GE346.out | refine below_set ?_ GE353.out) | exact HB.out)) hb); have n11_ := Aside0.mk (hbox); have n12_ := Aside0.mk ((by rw [hg]; exact (below_size (by repeat (first | (with_reducible first | exact HB.out | apply below_alloc | apply pw_below_drewN | apply below_drew1 | refine below_set ?_ GE315.out | refine below_set ?_ GE316.out | refine below_set ?_ GE346.out | refine below_set ?_ GE353.out) | exact HB.out))) : w.heap.size ≤ gb360)); have n13_ := Aside0.mk ((by rw [hg]; exact (below_size (by repeat (first | (with_reducible first | exact HB.out | apply below_alloc | apply pw_below_drewN | apply below_drew1 | refine below_set ?_ GE315.out | refine below_set ?_ GE316.out | refine below_set ?_ GE346.out | refine below_set ?_ GE353.out) | exact HB.out))) : w.heap.size ≤ gb360)); have n14_ := Aside0.mk ((by rw [hg]; exact Nat.ne_of_lt (blk_lt (g := gb315) (o := .cells #[.slice Ao89 x316000_3.length co89, .int .i64 x316001_3] 26 (0, 0)) (by (with_reducible repeat (first | refine blk_drewN ?_ _ | refine blk_drew ?_ | refine blk_alloc ?_ _)); exact BK315.out)) : gb315 ≠ gb360)); have n15_ := Aside0.mk ((by rw [hg]; exact Nat.ne_of_gt (blk_lt (g := gb315) (o := .cells #[.slice Ao89 x316000_3.length co89, .int .i64 x316001_3] 26 (0, 0)) (by (with_reducible repeat (first | refine blk_drewN ?_ _ | refine blk_drew ?_ | refine blk_alloc ?_ _)); exact BK315.out)) : gb360 ≠ gb315)); have n16_ := Aside0.mk ((by rw [hg]; exact Nat.ne_of_lt (blk_lt (g := gb316) (o := .cells #[.slice Ao100 x317000_3.length co100, .int .i64 x317001_3] 26 (0, 0)) (by (with_reducible repeat (first | refine blk_drewN ?_ _ | refine blk_drew ?_ | refine blk_alloc ?_ _)); exact BK316.out)) : gb316 ≠ gb360)); have n17_ := Aside0.mk ((by rw [hg]; exact Nat.ne_of_gt (blk_lt (g := gb316) (o := .cells #[.slice Ao100 x317000_3.length co100, .int .i64 x317001_3] 26 (0, 0)) (by (with_reducible repeat (first | refine blk_drewN ?_ _ | refine blk_drew ?_ | refine blk_alloc ?_ _)); exact BK316.out)) : gb360 ≠ gb316)); have n18_ := Aside0.mk ((by rw [hg]; exact Nat.ne_of_lt (blk_lt (g := gb346) (o := .cells #[.slice Ao75 t341.length co75, .int .i64 t344] 26 (0, 0)) (by (with_reducible repeat (first | refine blk_drewN ?_ _ | refine blk_drew ?_ | refine blk_alloc ?_ _)); exact BK346.out)) : gb346 ≠ gb360)); have n19_ := Aside0.mk ((by rw [hg]; exact Nat.ne_of_gt (blk_lt (g := gb346) (o := .cells #[.slice Ao75 t341.length co75, .int .i64 t344] 26 (0, 0)) (by (with_reducible repeat (first | refine blk_drewN ?_ _ | refine blk_drew ?_ | refine blk_alloc ?_ _)); exact BK346.out)) : gb360 ≠ gb346)); have n20_ := Aside0.mk ((by rw [hg]; exact Nat.ne_of_lt (blk_lt (g := gb353) (o := .cells #[.slice Ao93 t347.length co93, .int .i64 t350] 26 (0, 0)) (by (with_reducible repeat (first | refine blk_drewN ?_ _ | refine blk_drew ?_ | refine blk_alloc ?_ _)); exact BK353.out)) : gb353 ≠ gb360)); have n21_ := Aside0.mk ((by rw [hg]; exact Nat.ne_of_gt (blk_lt (g := gb353) (o := .cells #[.slice Ao93 t347.length co93, .int .i64 t350] 26 (0, 0)) (by (with_reducible repeat (first | refine blk_drewN ?_ _ | refine blk_drew ?_ | refine blk_alloc ?_ _)); exact BK353.out)) : gb360 ≠ gb353)); clear HO_9; clear HO_316000; clear HO_317000; clear HO_347000; clear HO349; clear HO356; clear BK315; clear BK316; clear BK346; clear BK353; clear HB; have HO_9 := n0_; have HO_316000 := n1_; have HO_317000 := n2_; have HO_347000 := n3_; have HO349 := n4_; have HO356 := n5_; have BK315 := n6_; have BK316 := n7_; have BK346 := n8_; have BK353 := n9_; have HB := n10_; have BK360 := n11_; have GW360 := n12_; have GE360 := n13_; have NB315_360 := n14_; have NB360_315 := n15_; have NB316_360 := n16_; have NB360_316 := n17_; have NB346_360 := n18_; have NB360_346 := n19_; have NB353_360 := n20_; have NB360_353 := n21_; clear n0_ n1_ n2_ n3_ n4_ n5_ n6_ n7_ n8_ n9_ n10_ n11_ n12_ n13_ n14_ n15_ n16_ n17_ n18_ n19_ n20_ n21_; clear hb hbox hg; obtain ⟨Ao103, co103, eo103⟩ := Kd.R_slice HO356.out; subst eo103; have hnb104 := NB360_315.out; have hnc104 := NB315_360.out; have hnb105 := NB360_316.out; have hnc105 := NB316_360.out; have hnb106 := NB360_346.out; have hnc106 := NB346_360.out; have hnb107 := NB360_353.out; have hnc107 := NB353_360.out; have hcz108_0 : w102.cell? ⟨gb360, 0, none⟩ = some (.slice none 0 0) := (blk_cell BK360.out 0).trans rfl; have hcz108_1 : w102.cell? ⟨gb360, 1, none⟩ = some (.int .i64 0) := (blk_cell BK360.out 1).trans rfl; have hfz108_0 := blk_frozen BK360.out 0; have hfz108_1 := blk_frozen BK360.out 1; have hcz109_0 : w102.cell? ⟨gb353, 0, none⟩ = some (.slice Ao93 t347.length co93) := (blk_cell BK353.out 0).trans rfl; have hcz109_1 : w102.cell? ⟨gb353, 1, none⟩ = some (.int .i64 t350) := (blk_cell BK353.out 1).trans rfl; have hfz109_0 := blk_frozen BK353.out 0; have hfz109_1 := blk_frozen BK353.out 1; have hcz110_0 : w102.cell? ⟨gb315, 0, none⟩ = some (.slice Ao89 x316000_3.length co89) := (blk_cell BK315.out 0).trans rfl; have hcz110_1 : w102.cell? ⟨gb315, 1, none⟩ = some (.int .i64 x316001_3) := (blk_cell BK315.out 1).trans rfl; have hfz110_0 := blk_frozen BK315.out 0; have hfz110_1 := blk_frozen BK315.out 1; have hcz111_0 : w102.cell? ⟨gb316, 0, none⟩ = some (.slice Ao100 x317000_3.length co100) := (blk_cell BK316.out 0).trans rfl; have hcz111_1 : w102.cell? ⟨gb316, 1, none⟩ = some (.int .i64 x317001_3) := (blk_cell BK316.out 1).trans rfl; have hfz111_0 := blk_frozen BK316.out 0; have hfz111_1 := blk_frozen BK316.out 1))
                              go_roundg k3
                              case measure => have := HJ3.out; have := HK2.out; have := HK3.out; omega
                              case rel => exact ⟨(wrap64 (x18_3 + 1)), (t347), (t350), (t354), (t357), (.slice Ao93 t347.length co93), (.slice Ao103 t354.length co103), (by first | rfl | (simp; done) | (simp [*]; done)), H', ⟨by have := HJ3.out; have := HK2.out; have := HK3.out; omega⟩, ⟨by (with_reducible repeat (first | apply Kd.R_alloc | apply Kd.R_drewN | apply Kd.R_drew)); exact Kd.R_mono (Kd.R_far (p := ⟨gb316, 1, none⟩) (Kd.R_far (p := ⟨gb316, 0, none⟩) (Kd.R_far (p := ⟨gb315, 1, none⟩) (Kd.R_far (p := ⟨gb315, 0, none⟩) (Kd.R_far (p := ⟨gb360, 1, none⟩) (Kd.R_far (p := ⟨gb360, 0, none⟩) (Kd.R_types (Kd.R_types (Kd.R_types HO_9.out BK360.out (by decide)) BK315.out (by decide)) BK316.out (by decide)) (fun _ hk => hk.1.1.2) (.slice Ao103 t354.length co103)) (fun _ hk => hk.1.1.2) (.int .i64 t357)) (fun _ hk => hk.1.2) (.slice Ao93 t347.length co93)) (fun _ hk => hk.1.2) (.int .i64 t350)) (fun _ hk => hk.2) (.slice Ao103 t354.length co103)) (fun _ hk => hk.2) (.int .i64 t357)) (fun _ hk => trivial)⟩, ⟨by (with_reducible repeat (first | apply Kd.R_alloc | apply Kd.R_drewN | apply Kd.R_drew)); exact Kd.R_mono (Kd.R_far (p := ⟨gb316, 1, none⟩) (Kd.R_far (p := ⟨gb316, 0, none⟩) (Kd.R_far (p := ⟨gb315, 1, none⟩) (Kd.R_far (p := ⟨gb315, 0, none⟩) (Kd.R_far (p := ⟨gb360, 1, none⟩) (Kd.R_far (p := ⟨gb360, 0, none⟩) (Kd.R_types (Kd.R_types (Kd.R_types HO349.out BK360.out (by decide)) BK315.out (by decide)) BK316.out (by decide)) (fun _ hk => hk.1.1.2) (.slice Ao103 t354.length co103)) (fun _ hk => hk.1.1.2) (.int .i64 t357)) (fun _ hk => hk.1.2) (.slice Ao93 t347.length co93)) (fun _ hk => hk.1.2) (.int .i64 t350)) (fun _ hk => hk.2) (.slice Ao103 t354.length co103)) (fun _ hk => hk.2) (.int .i64 t357)) (fun _ hk => ⟨hk.1.1.1.2, hk.1.1.1.1.2⟩)⟩, ⟨by (with_reducible repeat (first | apply Kd.R_alloc | apply Kd.R_drewN | apply Kd.R_drew)); exact Kd.R_mono (Kd.R_far (p := ⟨gb316, 1, none⟩) (Kd.R_far (p := ⟨gb316, 0, none⟩) (Kd.R_far (p := ⟨gb315, 1, none⟩) (Kd.R_far (p := ⟨gb315, 0, none⟩) (Kd.R_far (p := ⟨gb360, 1, none⟩) (Kd.R_far (p := ⟨gb360, 0, none⟩) (Kd.R_types (Kd.R_types (Kd.R_types HO356.out BK360.out (by decide)) BK315.out (by decide)) BK316.out (by decide)) (fun _ hk => hk.1.1.2) (.slice Ao103 t354.length co103)) (fun _ hk => hk.1.1.2) (.int .i64 t357)) (fun _ hk => hk.1.2) (.slice Ao93 t347.length co93)) (fun _ hk => hk.1.2) (.int .i64 t350)) (fun _ hk => hk.2) (.slice Ao103 t354.length co103)) (fun _ hk => hk.2) (.int .i64 t357)) (fun _ hk => ⟨hk.1.1.1.2, hk.1.1.1.1.2⟩)⟩, ⟨by (with_reducible repeat (first | apply Kd.R_alloc | apply Kd.R_drewN | apply Kd.R_drew)); exact Kd.R_mono (Kd.R_far (p := ⟨gb316, 1, none⟩) (Kd.R_far (p := ⟨gb316, 0, none⟩) (Kd.R_far (p := ⟨gb315, 1, none⟩) (Kd.R_far (p := ⟨gb315, 0, none⟩) (Kd.R_far (p := ⟨gb360, 1, none⟩) (Kd.R_far (p := ⟨gb360, 0, none⟩) (Kd.R_types (Kd.R_types (Kd.R_types HO_347000.out BK360.out (by decide)) BK315.out (by decide)) BK316.out (by decide)) (fun _ hk => hk.1.1.2) (.slice Ao103 t354.length co103)) (fun _ hk => hk.1.1.2) (.int .i64 t357)) (fun _ hk => hk.1.2) (.slice Ao93 t347.length co93)) (fun _ hk => hk.1.2) (.int .i64 t350)) (fun _ hk => hk.2) (.slice Ao103 t354.length co103)) (fun _ hk => hk.2) (.int .i64 t357)) (fun _ hk => ⟨hk.1.1.1.1.2, hk.1.1.1.2⟩)⟩, ⟨by (with_reducible repeat (first | refine blk_drewN ?_ _ | refine blk_drew ?_ | refine blk_alloc ?_ _)); refine blk_far ?_ NB315_316.out _; (with_reducible repeat (first | refine blk_drewN ?_ _ | refine blk_drew ?_ | refine blk_alloc ?_ _)); refine blk_far ?_ NB315_316.out _; (with_reducible repeat (first | refine blk_drewN ?_ _ | refine blk_drew ?_ | refine blk_alloc ?_ _)); refine blk_put (cs := #[.slice Ao93 t347.length co93, .int .i64 x316001_3]) ?_ 1 _ rfl; (with_reducible repeat (first | refine blk_drewN ?_ _ | refine blk_drew ?_ | refine blk_alloc ?_ _)); refine blk_put (cs := #[.slice Ao89 x316000_3.length co89, .int .i64 x316001_3]) ?_ 0 _ rfl; (with_reducible repeat (first | refine blk_drewN ?_ _ | refine blk_drew ?_ | refine blk_alloc ?_ _)); refine blk_far ?_ NB315_360.out _; (with_reducible repeat (first | refine blk_drewN ?_ _ | refine blk_drew ?_ | refine blk_alloc ?_ _)); refine blk_far ?_ NB315_360.out _; (with_reducible repeat (first | refine blk_drewN ?_ _ | refine blk_drew ?_ | refine blk_alloc ?_ _)); exact BK315.out⟩, ⟨by (with_reducible repeat (first | refine blk_drewN ?_ _ | refine blk_drew ?_ | refine blk_alloc ?_ _)); refine blk_put (cs := #[.slice Ao103 t354.length co103, .int .i64 x317001_3]) ?_ 1 _ rfl; (with_reducible repeat (first | refine blk_drewN ?_ _ | refine blk_drew ?_ | refine blk_alloc ?_ _)); refine blk_put (cs := #[.slice Ao100 x317000_3.length co100, .int .i64 x317001_3]) ?_ 0 _ rfl; (with_reducible repeat (first | refine blk_drewN ?_ _ | refine blk_drew ?_ | refine blk_alloc ?_ _)); refine blk_far ?_ NB316_315.out _; (with_reducible repeat (first | refine blk_drewN ?_ _ | refine blk_drew ?_ | refine blk_alloc ?_ _)); refine blk_far ?_ NB316_315.out _; (with_reducible repeat (first | refine blk_drewN ?_ _ | refine blk_drew ?_ | refine blk_alloc ?_ _)); refine blk_far ?_ NB316_360.out _; (with_reducible repeat (first | refine blk_drewN ?_ _ | refine blk_drew ?_ | refine blk_alloc ?_ _)); refine blk_far ?_ NB316_360.out _; (with_reducible repeat (first | refine blk_drewN ?_ _ | refine blk_drew ?_ | refine blk_alloc ?_ _)); exact BK316.out⟩, ⟨by (with_reducible repeat (first | refine blk_drewN ?_ _ | refine blk_drew ?_ | refine blk_alloc ?_ _)); refine blk_far ?_ NB346_316.out _; (with_reducible repeat (first | refine blk_drewN ?_ _ | refine blk_drew ?_ | refine blk_alloc ?_ _)); refine blk_far ?_ NB346_316.out _; (with_reducible repeat (first | refine blk_drewN ?_ _ | refine blk_drew ?_ | refine blk_alloc ?_ _)); refine blk_far ?_ NB346_315.out _; (with_reducible repeat (first | refine blk_drewN ?_ _ | refine blk_drew ?_ | refine blk_alloc ?_ _)); refine blk_far ?_ NB346_315.out _; (with_reducible repeat (first | refine blk_drewN ?_ _ | refine blk_drew ?_ | refine blk_alloc ?_ _)); refine blk_far ?_ NB346_360.out _; (with_reducible repeat (first | refine blk_drewN ?_ _ | refine blk_drew ?_ | refine blk_alloc ?_ _)); refine blk_far ?_ NB346_360.out _; (with_reducible repeat (first | refine blk_drewN ?_ _ | refine blk_drew ?_ | refine blk_alloc ?_ _)); exact BK346.out⟩, ⟨by repeat (first | (with_reducible first | exact HB.out | apply below_alloc | apply pw_below_drewN | apply below_drew1 | refine below_set ?_ GE315.out | refine below_set ?_ GE316.out | refine below_set ?_ GE346.out | refine below_set ?_ GE353.out | refine below_set ?_ GE360.out) | exact HB.out)⟩⟩
                          · rw [if_neg c84] at H
                            have c84b0 : (t351 == t358) = false := beq_eq_false_iff_ne.mpr c84
                            have c84b1 : (t351 != t358) = true := bne_iff_ne.mpr c84
                            obtain rfl := Option.some.inj H
                            exact absurd hT_.out (by decide)
                        · rw [if_neg c83] at H
                          have c83b0 : (t359 == 0) = false := beq_eq_false_iff_ne.mpr c83
                          have c83b1 : (t359 != 0) = true := bne_iff_ne.mpr c83
                          obtain rfl := Option.some.inj H
                          exact absurd hT_.out (by decide)
                      · rw [if_neg c82] at H
                        have c82b0 : (t352 == 0) = false := beq_eq_false_iff_ne.mpr c82
                        have c82b1 : (t352 != 0) = true := bne_iff_ne.mpr c82
                        obtain rfl := Option.some.inj H
                        exact absurd hT_.out (by decide)
                    · rw [if_neg c79] at H
                      have c79b0 : decide (x18_3 < (l0.length : Int)) = false := decide_eq_false c79
                      clear c79
                      by_cases c112 : t314 = true
                      · subst c112
                        have H1 : (if t340 = 0 then (if t345 = 6 then (some ((x316000_3.length : Int) == 0)) else (some false)) else (some false)) = some r := by rw [if_pos rfl] at H; exact H
                        clear H
                        have H := H1
                        clear H1
                        by_cases c113 : t340 = 0
                        · rw [if_pos c113] at H
                          have c113b0 : (t340 == 0) = true := beq_iff_eq.mpr c113
                          have c113b1 : (t340 != 0) = false := bne_eq_false_iff_eq.mpr c113
                          clear c113
                          by_cases c114 : t345 = 6
                          · rw [if_pos c114] at H
                            have c114b0 : (t345 == 6) = true := beq_iff_eq.mpr c114
                            have c114b1 : (t345 != 6) = false := bne_eq_false_iff_eq.mpr c114
                            clear c114
                            obtain rfl := Option.some.inj H
                            have hnb115 := NB315_316.out
                            have hnc115 := NB316_315.out
                            have hnb116 := NB315_346.out
                            have hnc116 := NB346_315.out
                            have hcz117_0 : wr.cell? ⟨gb315, 0, none⟩ = some (u316000) := (blk_cell BK315.out 0).trans rfl
                            have hcz117_1 : wr.cell? ⟨gb315, 1, none⟩ = some (.int .i64 x316001_3) := (blk_cell BK315.out 1).trans rfl
                            have hfz117_0 := blk_frozen BK315.out 0
                            have hfz117_1 := blk_frozen BK315.out 1
                            obtain ⟨Ao118, co118, eo118⟩ := Kd.R_slice HO_316000.out
                            subst eo118
                            go_wp2
                            go_ret
                            exact ⟨by first | rfl | (simp [errW_none, errW_some] <;> rfl) | (simp [*, errW_none, errW_some] <;> rfl), by repeat (first | (with_reducible first | exact HB.out | apply below_alloc | apply pw_below_drewN | apply below_drew1 | refine below_set ?_ GE315.out | refine below_set ?_ GE316.out | refine below_set ?_ GE346.out) | exact HB.out)⟩
                          · rw [if_neg c114] at H
                            have c114b0 : (t345 == 6) = false := beq_eq_false_iff_ne.mpr c114
                            have c114b1 : (t345 != 6) = true := bne_iff_ne.mpr c114
                            obtain rfl := Option.some.inj H
                            exact absurd hT_.out (by decide)
                        · rw [if_neg c113] at H
                          have c113b0 : (t340 == 0) = false := beq_eq_false_iff_ne.mpr c113
                          have c113b1 : (t340 != 0) = true := bne_iff_ne.mpr c113
                          obtain rfl := Option.some.inj H
                          exact absurd hT_.out (by decide)
                      · replace c112 := Bool.eq_false_iff.mpr c112
                        subst c112
                        have H1 : (some false) = some r := by rw [if_neg (show ¬ (false = true) by decide)] at H; exact H
                        clear H
                        have H := H1
                        clear H1
                        obtain rfl := Option.some.inj H
                        exact absurd hT_.out (by decide)

/-- THE ONE PURE STATEMENT of heronrylaw21_SchedDrops: yours. -/
def heronrylaw21_SchedDrops.Pure : Prop := ∀ (l0 : List Int) (a1 : Int), l0.length ≤ maxLen → l0.length * 8 ≤ 140737488351232 → (∀ x ∈ l0, (Lit.int .u64 x).wf = true) → (Lit.int .i64 a1).wf = true → ∃ k, heronrylaw21_SchedDrops.f k l0 a1 = some true
theorem heronrylaw21_SchedDrops.walk (P : heronrylaw21_SchedDrops.Pure) (a0 : Option Addr) (len0 cap0 : Nat) (z0 : List Int) (a1 : Int) (w : World) (w0 : (a0 = none ∧ len0 = 0 ∧ cap0 = 0 ∧ z0 = []) ∨ ∃ x, a0 = some x ∧ len0 ≤ cap0 ∧ cap0 ≤ maxLen ∧ z0.length = cap0 ∧ (∀ i, i < z0.length → w.cell? (x.add i) = some (.int .u64 (z0.getD i 0))) ∧ ∀ n ∈ z0, (Lit.int .u64 n).wf = true) (y0 : len0 * 8 ≤ 140737488351232) (w1 : (Lit.int .i64 a1).wf = true) :
    Calls Try.prog 6 #[.slice a0 len0 cap0, .int .i64 a1] w fun e w' => e = .returned (.bool true) ∧ Below w.heap.size w w' := by
  obtain ⟨l0, rfl, hr0, hm0, hw0, hc0⟩ := ReadsInt.ofRowC w0
  obtain ⟨k, h⟩ := P l0 a1 hm0 y0 hw0 w1
  refine (heronrylaw21_SchedDrops.calls k _ _ l0 a1 true w ⟨rfl⟩ (Kd.C_of_reads (d := (0 : Int)) (h1 := fun _ => rfl) hr0) hc0 h).mono ?_
  rintro e w' ⟨rfl, hd⟩
  exact ⟨rfl, hd⟩

end Go.Proofs.Ytjbdlgjhnldfbaa.Q
