-- Cut to what one claim reaches, out of what the kit's print laid for this seat (wip/tools/trim.py).
import Derived.Test.YtnlnglfjehohpaaQ0
namespace Go.Proofs.Ytnlnglfjehohpaa.Q
open Go.RowKit Go.Proofs.YtnlnglfjehohpaaW.PrintWords Go.Proofs.YtnlnglfjehohpaaW.PrintLast Go.Proofs.YtnlnglfjehohpaaW.PrintMore
attribute [local go_sem] max2_int min2_int max_two min_two max_three min_three max_four min_four   -- for this text's walks alone
set_option linter.unusedVariables false
set_option linter.unusedSimpArgs false

mutual
def tree_Tree_sound.j0 : Nat → Int → Bool → List (S35) → Int → Int → Int → Int → Int → Option (Bool)
 | 0, _, _, _, _, _, _, _, _ => none
 | k + 1, x1, x11, x154000, x154001, x156000, x156001, x156002, x156003 => if x11 = true then (some false) else (if x1 > 0 then (if 0 ≤ (wrap64 (x1 - 1)) then (if (wrap64 (x1 - 1)) < (x154000.length : Int) then (tree_Tree_sound.j1 k (decide (((rd_T35 x154000 (wrap64 (x1 - 1))).f2) ≥ x156002)) x154000 x154001 x156000 x156001 x156002 x156003) else (none)) else (none)) else (tree_Tree_sound.j1 k false x154000 x154001 x156000 x156001 x156002 x156003))
def tree_Tree_sound.j1 : Nat → Bool → List (S35) → Int → Int → Int → Int → Int → Option (Bool)
 | 0, _, _, _, _, _, _, _ => none
 | k + 1, x33, x154000, x154001, x156000, x156001, x156002, x156003 => if x33 = true then (some false) else (if x156001 = 1 then (some (x156003 == 0)) else (if x156001 = 2 then (if x156003 > x156002 then (some (decide (x156003 ≤ x154001))) else (some false)) else (if x156001 = 3 then (if x156003 > x156002 then (some (decide (x156003 ≤ x154001))) else (some false)) else (some false))))
end
def tree_Tree_sound.f (k : Nat) (l0_0 : List (S35)) (a0_1 : Int) (a1 : Int) : Option (Bool) := if 0 ≤ a1 then (if a1 < (l0_0.length : Int) then (if ((rd_T35 l0_0 a1).f0) < (-1) then (tree_Tree_sound.j0 k a1 true l0_0 a0_1 ((rd_T35 l0_0 a1).f0) ((rd_T35 l0_0 a1).f1) ((rd_T35 l0_0 a1).f2) ((rd_T35 l0_0 a1).f3)) else (if ((rd_T35 l0_0 a1).f0) ≥ a1 then (tree_Tree_sound.j0 k a1 true l0_0 a0_1 ((rd_T35 l0_0 a1).f0) ((rd_T35 l0_0 a1).f1) ((rd_T35 l0_0 a1).f2) ((rd_T35 l0_0 a1).f3)) else (if ((rd_T35 l0_0 a1).f2) < 1 then (tree_Tree_sound.j0 k a1 true l0_0 a0_1 ((rd_T35 l0_0 a1).f0) ((rd_T35 l0_0 a1).f1) ((rd_T35 l0_0 a1).f2) ((rd_T35 l0_0 a1).f3)) else (tree_Tree_sound.j0 k a1 (decide (((rd_T35 l0_0 a1).f2) > a0_1)) l0_0 a0_1 ((rd_T35 l0_0 a1).f0) ((rd_T35 l0_0 a1).f1) ((rd_T35 l0_0 a1).f2) ((rd_T35 l0_0 a1).f3))))) else (none)) else (none)
theorem tree_Tree_sound.mono_l : ∀ k, (∀ y0 y1 y2 y3 y4 y5 y6 y7, LeO (tree_Tree_sound.j0 k y0 y1 y2 y3 y4 y5 y6 y7) (tree_Tree_sound.j0 (k + 1) y0 y1 y2 y3 y4 y5 y6 y7)) ∧ (∀ y0 y1 y2 y3 y4 y5 y6, LeO (tree_Tree_sound.j1 k y0 y1 y2 y3 y4 y5 y6) (tree_Tree_sound.j1 (k + 1) y0 y1 y2 y3 y4 y5 y6))
 | 0 => ⟨fun _ _ _ _ _ _ _ _ r h => by simp [tree_Tree_sound.j0] at h, fun _ _ _ _ _ _ _ r h => by simp [tree_Tree_sound.j1] at h⟩
 | k + 1 => by
  obtain ⟨ih0, ih1⟩ := tree_Tree_sound.mono_l k
  refine ⟨?_, ?_⟩
  ·intro y0 y1 y2 y3 y4 y5 y6 y7
   unfold tree_Tree_sound.j0
   repeat' first
   | (with_reducible exact ih0 _ _ _ _ _ _ _ _)
   | (with_reducible exact ih1 _ _ _ _ _ _ _)
   | (with_reducible exact LeO.refl _)
   | (with_reducible exact LeO.none _)
   | (with_reducible refine LeO.ite ?_ ?_)
   | (with_reducible refine LeO.bind ?_ (fun _ => ?_))
   | exact ih0 _ _ _ _ _ _ _ _
   | exact ih1 _ _ _ _ _ _ _
   | exact LeO.none _
   | refine LeO.ite ?_ ?_
   | refine LeO.bind ?_ (fun _ => ?_)
  ·intro y0 y1 y2 y3 y4 y5 y6
   unfold tree_Tree_sound.j1
   repeat' first
   | (with_reducible exact ih0 _ _ _ _ _ _ _ _)
   | (with_reducible exact ih1 _ _ _ _ _ _ _)
   | (with_reducible exact LeO.refl _)
   | (with_reducible exact LeO.none _)
   | (with_reducible refine LeO.ite ?_ ?_)
   | (with_reducible refine LeO.bind ?_ (fun _ => ?_))
   | exact ih0 _ _ _ _ _ _ _ _
   | exact ih1 _ _ _ _ _ _ _
   | exact LeO.none _
   | refine LeO.ite ?_ ?_
   | refine LeO.bind ?_ (fun _ => ?_)
theorem tree_Tree_sound.mono : ∀ a0 a1 a2 k, LeO (tree_Tree_sound.f k a0 a1 a2) (tree_Tree_sound.f (k + 1) a0 a1 a2) := by
 intro a0 a1 a2 k
 obtain ⟨ih0, ih1⟩ := tree_Tree_sound.mono_l k
 unfold tree_Tree_sound.f
 repeat' first
   | (with_reducible exact ih0 _ _ _ _ _ _ _ _)
   | (with_reducible exact ih1 _ _ _ _ _ _ _)
   | (with_reducible exact LeO.refl _)
   | (with_reducible exact LeO.none _)
   | (with_reducible refine LeO.ite ?_ ?_)
   | (with_reducible refine LeO.bind ?_ (fun _ => ?_))
   | exact ih0 _ _ _ _ _ _ _ _
   | exact ih1 _ _ _ _ _ _ _
   | exact LeO.none _
   | refine LeO.ite ?_ ?_
   | refine LeO.bind ?_ (fun _ => ?_)
set_option maxHeartbeats 8000000 in
set_option maxRecDepth 100000 in
theorem tree_Tree_sound.calls (k : Nat) (A0_0 : Option Addr) (c0_0 : Nat) (l0_0 : List (S35)) (a0_1 : Int) (a1 : Int) (r : Bool) (w : World) (hr0_0 : Kd.C k35 w A0_0 l0_0.length l0_0) (hc0_0 : l0_0.length ≤ c0_0) (h : tree_Tree_sound.f k l0_0 a0_1 a1 = some r) :
  Calls Try.prog 31 #[.agg #[.slice A0_0 l0_0.length c0_0, .int .i64 a0_1], .int .i64 a1] w fun e w' => e = .returned (.bool r) ∧ Below w.heap.size w w' := by
 have hu26 := Try.underlying26
 have hu35 := Try.underlying35
 have HR0_0 := Aside0.mk hr0_0
 have HC0_0 := Aside0.mk hc0_0
 clear hr0_0 hc0_0
 have HB := Aside0.mk (Below.refl w.heap.size w)
 have H : (if 0 ≤ a1 then (if a1 < (l0_0.length : Int) then (if ((rd_T35 l0_0 a1).f0) < (-1) then (tree_Tree_sound.j0 k a1 true l0_0 a0_1 ((rd_T35 l0_0 a1).f0) ((rd_T35 l0_0 a1).f1) ((rd_T35 l0_0 a1).f2) ((rd_T35 l0_0 a1).f3)) else (if ((rd_T35 l0_0 a1).f0) ≥ a1 then (tree_Tree_sound.j0 k a1 true l0_0 a0_1 ((rd_T35 l0_0 a1).f0) ((rd_T35 l0_0 a1).f1) ((rd_T35 l0_0 a1).f2) ((rd_T35 l0_0 a1).f3)) else (if ((rd_T35 l0_0 a1).f2) < 1 then (tree_Tree_sound.j0 k a1 true l0_0 a0_1 ((rd_T35 l0_0 a1).f0) ((rd_T35 l0_0 a1).f1) ((rd_T35 l0_0 a1).f2) ((rd_T35 l0_0 a1).f3)) else (tree_Tree_sound.j0 k a1 (decide (((rd_T35 l0_0 a1).f2) > a0_1)) l0_0 a0_1 ((rd_T35 l0_0 a1).f0) ((rd_T35 l0_0 a1).f1) ((rd_T35 l0_0 a1).f2) ((rd_T35 l0_0 a1).f3))))) else (none)) else (none)) = some r := h
 clear h
 by_cases c3 : 0 ≤ a1
 ·rw [if_pos c3] at H
  have c3b0 : decide (0 ≤ a1) = true := decide_eq_true c3
  clear c3
  by_cases c4 : a1 < (l0_0.length : Int)
  ·rw [if_pos c4] at H
   have c4b0 : decide (a1 < (l0_0.length : Int)) = true := decide_eq_true c4
   clear c4
   have HC5 := Aside0.mk H
   clear H
   go_enter Try.func31, Try.ntmps31
   go_upto_region 2 with (first | ((with_reducible refine gate_dst (N := 2) rfl ?_); refine box_event ?hg (N := 2) ?hd (cs := #[.slice A0_0 l0_0.length c0_0, .int .i64 a0_1]) (t := 26) ?hr ?_; (case hd => rfl); (case hg => rfl); (case hr => first | (go_simp; done) | (go_simp; rfl)); intro gb153 hg w6 hbox hb; have n0_ := Aside0.mk (below_step (by repeat (first | (with_reducible first | exact HB.out | apply below_alloc | apply pw_below_drewN | apply below_drew1) | exact HB.out)) hb); have n1_ := Aside0.mk (hbox); have n2_ := Aside0.mk ((by rw [hg]; exact (below_size (by repeat (first | (with_reducible first | exact HB.out | apply below_alloc | apply pw_below_drewN | apply below_drew1) | exact HB.out))) : w.heap.size ≤ gb153)); have n3_ := Aside0.mk ((by rw [hg]; exact (below_size (by repeat (first | (with_reducible first | exact HB.out | apply below_alloc | apply pw_below_drewN | apply below_drew1) | exact HB.out))) : w.heap.size ≤ gb153)); clear HB; have HB := n0_; have BK153 := n1_; have GW153 := n2_; have GE153 := n3_; clear n0_ n1_ n2_ n3_; clear hb hbox hg; have hcz7_0 : w6.cell? ⟨gb153, 0, none⟩ = some (.slice A0_0 l0_0.length c0_0) := (blk_cell BK153.out 0).trans rfl; have hcz7_1 : w6.cell? ⟨gb153, 1, none⟩ = some (.int .i64 a0_1) := (blk_cell BK153.out 1).trans rfl; have hfz7_0 := blk_frozen BK153.out 0; have hfz7_1 := blk_frozen BK153.out 1; have p154 : 0 ≤ (a1 : Int) := of_decide_eq_true (by first | (with_reducible assumption) | assumption); have q154 : a1 < (l0_0.length : Int) := of_decide_eq_true (by first | (with_reducible assumption) | assumption); obtain ⟨ad154, e154, hx154_0, hx154_1, hx154_2, hx154_3⟩ := at_T35 HR0_0.out a1 p154 q154; cases e154; replace hx154_0 := (HB.out.cell (World.block_lt_of_cell? w _ hx154_0)).trans hx154_0; replace hx154_1 := (HB.out.cell (World.block_lt_of_cell? w _ hx154_1)).trans hx154_1; replace hx154_2 := (HB.out.cell (World.block_lt_of_cell? w _ hx154_2)).trans hx154_2; replace hx154_3 := (HB.out.cell (World.block_lt_of_cell? w _ hx154_3)).trans hx154_3; replace p154 := eq_true p154; replace q154 := eq_true q154) | ((with_reducible refine gate_dst (N := 5) rfl ?_); refine box_event ?hg (N := 5) ?hd (cs := #[.int .i64 0, .int .i64 0, .int .i64 0, .int .i64 0]) (t := 35) ?hr ?_; (case hd => rfl); (case hg => rfl); (case hr => first | (go_simp; done) | (go_simp; rfl)); intro gb155 hg w8 hbox hb; have n0_ := Aside0.mk (blk_below (g := gb153) (o := .cells #[.slice (some ad154) l0_0.length c0_0, .int .i64 a0_1] 26 (0, 0)) (by (with_reducible repeat (first | refine blk_drewN ?_ _ | refine blk_drew ?_ | refine blk_alloc ?_ _)); exact BK153.out) hb); have n1_ := Aside0.mk (below_step (by repeat (first | (with_reducible first | exact HB.out | apply below_alloc | apply pw_below_drewN | apply below_drew1 | refine below_set ?_ GE153.out) | exact HB.out)) hb); have n2_ := Aside0.mk (hbox); have n3_ := Aside0.mk ((by rw [hg]; exact (below_size (by repeat (first | (with_reducible first | exact HB.out | apply below_alloc | apply pw_below_drewN | apply below_drew1 | refine below_set ?_ GE153.out) | exact HB.out))) : w.heap.size ≤ gb155)); have n4_ := Aside0.mk ((by rw [hg]; exact (below_size (by repeat (first | (with_reducible first | exact HB.out | apply below_alloc | apply pw_below_drewN | apply below_drew1 | refine below_set ?_ GE153.out) | exact HB.out))) : w.heap.size ≤ gb155)); have n5_ := Aside0.mk ((by rw [hg]; exact Nat.ne_of_lt (blk_lt (g := gb153) (o := .cells #[.slice (some ad154) l0_0.length c0_0, .int .i64 a0_1] 26 (0, 0)) (by (with_reducible repeat (first | refine blk_drewN ?_ _ | refine blk_drew ?_ | refine blk_alloc ?_ _)); exact BK153.out)) : gb153 ≠ gb155)); have n6_ := Aside0.mk ((by rw [hg]; exact Nat.ne_of_gt (blk_lt (g := gb153) (o := .cells #[.slice (some ad154) l0_0.length c0_0, .int .i64 a0_1] 26 (0, 0)) (by (with_reducible repeat (first | refine blk_drewN ?_ _ | refine blk_drew ?_ | refine blk_alloc ?_ _)); exact BK153.out)) : gb155 ≠ gb153)); clear BK153; clear HB; have BK153 := n0_; have HB := n1_; have BK155 := n2_; have GW155 := n3_; have GE155 := n4_; have NB153_155 := n5_; have NB155_153 := n6_; clear n0_ n1_ n2_ n3_ n4_ n5_ n6_; clear hb hbox hg; have hnb9 := NB155_153.out; have hnc9 := NB153_155.out; have hcz10_0 : w8.cell? ⟨gb155, 0, none⟩ = some (.int .i64 0) := (blk_cell BK155.out 0).trans rfl; have hcz10_1 : w8.cell? ⟨gb155, 1, none⟩ = some (.int .i64 0) := (blk_cell BK155.out 1).trans rfl; have hcz10_2 : w8.cell? ⟨gb155, 2, none⟩ = some (.int .i64 0) := (blk_cell BK155.out 2).trans rfl; have hcz10_3 : w8.cell? ⟨gb155, 3, none⟩ = some (.int .i64 0) := (blk_cell BK155.out 3).trans rfl; have hfz10_0 := blk_frozen BK155.out 0; have hfz10_1 := blk_frozen BK155.out 1; have hfz10_2 := blk_frozen BK155.out 2; have hfz10_3 := blk_frozen BK155.out 3))
   repeat (go_quiet (first | ((with_reducible refine gate_dst (N := 2) rfl ?_); refine box_event ?hg (N := 2) ?hd (cs := #[.slice A0_0 l0_0.length c0_0, .int .i64 a0_1]) (t := 26) ?hr ?_; (case hd => rfl); (case hg => rfl); (case hr => first | (go_simp; done) | (go_simp; rfl)); intro gb153 hg w6 hbox hb; have n0_ := Aside0.mk (below_step (by repeat (first | (with_reducible first | exact HB.out | apply below_alloc | apply pw_below_drewN | apply below_drew1) | exact HB.out)) hb); have n1_ := Aside0.mk (hbox); have n2_ := Aside0.mk ((by rw [hg]; exact (below_size (by repeat (first | (with_reducible first | exact HB.out | apply below_alloc | apply pw_below_drewN | apply below_drew1) | exact HB.out))) : w.heap.size ≤ gb153)); have n3_ := Aside0.mk ((by rw [hg]; exact (below_size (by repeat (first | (with_reducible first | exact HB.out | apply below_alloc | apply pw_below_drewN | apply below_drew1) | exact HB.out))) : w.heap.size ≤ gb153)); clear HB; have HB := n0_; have BK153 := n1_; have GW153 := n2_; have GE153 := n3_; clear n0_ n1_ n2_ n3_; clear hb hbox hg; have hcz7_0 : w6.cell? ⟨gb153, 0, none⟩ = some (.slice A0_0 l0_0.length c0_0) := (blk_cell BK153.out 0).trans rfl; have hcz7_1 : w6.cell? ⟨gb153, 1, none⟩ = some (.int .i64 a0_1) := (blk_cell BK153.out 1).trans rfl; have hfz7_0 := blk_frozen BK153.out 0; have hfz7_1 := blk_frozen BK153.out 1; have p154 : 0 ≤ (a1 : Int) := of_decide_eq_true (by first | (with_reducible assumption) | assumption); have q154 : a1 < (l0_0.length : Int) := of_decide_eq_true (by first | (with_reducible assumption) | assumption); obtain ⟨ad154, e154, hx154_0, hx154_1, hx154_2, hx154_3⟩ := at_T35 HR0_0.out a1 p154 q154; cases e154; replace hx154_0 := (HB.out.cell (World.block_lt_of_cell? w _ hx154_0)).trans hx154_0; replace hx154_1 := (HB.out.cell (World.block_lt_of_cell? w _ hx154_1)).trans hx154_1; replace hx154_2 := (HB.out.cell (World.block_lt_of_cell? w _ hx154_2)).trans hx154_2; replace hx154_3 := (HB.out.cell (World.block_lt_of_cell? w _ hx154_3)).trans hx154_3; replace p154 := eq_true p154; replace q154 := eq_true q154) | ((with_reducible refine gate_dst (N := 5) rfl ?_); refine box_event ?hg (N := 5) ?hd (cs := #[.int .i64 0, .int .i64 0, .int .i64 0, .int .i64 0]) (t := 35) ?hr ?_; (case hd => rfl); (case hg => rfl); (case hr => first | (go_simp; done) | (go_simp; rfl)); intro gb155 hg w8 hbox hb; have n0_ := Aside0.mk (blk_below (g := gb153) (o := .cells #[.slice (some ad154) l0_0.length c0_0, .int .i64 a0_1] 26 (0, 0)) (by (with_reducible repeat (first | refine blk_drewN ?_ _ | refine blk_drew ?_ | refine blk_alloc ?_ _)); exact BK153.out) hb); have n1_ := Aside0.mk (below_step (by repeat (first | (with_reducible first | exact HB.out | apply below_alloc | apply pw_below_drewN | apply below_drew1 | refine below_set ?_ GE153.out) | exact HB.out)) hb); have n2_ := Aside0.mk (hbox); have n3_ := Aside0.mk ((by rw [hg]; exact (below_size (by repeat (first | (with_reducible first | exact HB.out | apply below_alloc | apply pw_below_drewN | apply below_drew1 | refine below_set ?_ GE153.out) | exact HB.out))) : w.heap.size ≤ gb155)); have n4_ := Aside0.mk ((by rw [hg]; exact (below_size (by repeat (first | (with_reducible first | exact HB.out | apply below_alloc | apply pw_below_drewN | apply below_drew1 | refine below_set ?_ GE153.out) | exact HB.out))) : w.heap.size ≤ gb155)); have n5_ := Aside0.mk ((by rw [hg]; exact Nat.ne_of_lt (blk_lt (g := gb153) (o := .cells #[.slice (some ad154) l0_0.length c0_0, .int .i64 a0_1] 26 (0, 0)) (by (with_reducible repeat (first | refine blk_drewN ?_ _ | refine blk_drew ?_ | refine blk_alloc ?_ _)); exact BK153.out)) : gb153 ≠ gb155)); have n6_ := Aside0.mk ((by rw [hg]; exact Nat.ne_of_gt (blk_lt (g := gb153) (o := .cells #[.slice (some ad154) l0_0.length c0_0, .int .i64 a0_1] 26 (0, 0)) (by (with_reducible repeat (first | refine blk_drewN ?_ _ | refine blk_drew ?_ | refine blk_alloc ?_ _)); exact BK153.out)) : gb155 ≠ gb153)); clear BK153; clear HB; have BK153 := n0_; have HB := n1_; have BK155 := n2_; have GW155 := n3_; have GE155 := n4_; have NB153_155 := n5_; have NB155_153 := n6_; clear n0_ n1_ n2_ n3_ n4_ n5_ n6_; clear hb hbox hg; have hnb9 := NB155_153.out; have hnc9 := NB153_155.out; have hcz10_0 : w8.cell? ⟨gb155, 0, none⟩ = some (.int .i64 0) := (blk_cell BK155.out 0).trans rfl; have hcz10_1 : w8.cell? ⟨gb155, 1, none⟩ = some (.int .i64 0) := (blk_cell BK155.out 1).trans rfl; have hcz10_2 : w8.cell? ⟨gb155, 2, none⟩ = some (.int .i64 0) := (blk_cell BK155.out 2).trans rfl; have hcz10_3 : w8.cell? ⟨gb155, 3, none⟩ = some (.int .i64 0) := (blk_cell BK155.out 3).trans rfl; have hfz10_0 := blk_frozen BK155.out 0; have hfz10_1 := blk_frozen BK155.out 1; have hfz10_2 := blk_frozen BK155.out 2; have hfz10_3 := blk_frozen BK155.out 3)); go_upto_region 2 with (first | ((with_reducible refine gate_dst (N := 2) rfl ?_); refine box_event ?hg (N := 2) ?hd (cs := #[.slice A0_0 l0_0.length c0_0, .int .i64 a0_1]) (t := 26) ?hr ?_; (case hd => rfl); (case hg => rfl); (case hr => first | (go_simp; done) | (go_simp; rfl)); intro gb153 hg w6 hbox hb; have n0_ := Aside0.mk (below_step (by repeat (first | (with_reducible first | exact HB.out | apply below_alloc | apply pw_below_drewN | apply below_drew1) | exact HB.out)) hb); have n1_ := Aside0.mk (hbox); have n2_ := Aside0.mk ((by rw [hg]; exact (below_size (by repeat (first | (with_reducible first | exact HB.out | apply below_alloc | apply pw_below_drewN | apply below_drew1) | exact HB.out))) : w.heap.size ≤ gb153)); have n3_ := Aside0.mk ((by rw [hg]; exact (below_size (by repeat (first | (with_reducible first | exact HB.out | apply below_alloc | apply pw_below_drewN | apply below_drew1) | exact HB.out))) : w.heap.size ≤ gb153)); clear HB; have HB := n0_; have BK153 := n1_; have GW153 := n2_; have GE153 := n3_; clear n0_ n1_ n2_ n3_; clear hb hbox hg; have hcz7_0 : w6.cell? ⟨gb153, 0, none⟩ = some (.slice A0_0 l0_0.length c0_0) := (blk_cell BK153.out 0).trans rfl; have hcz7_1 : w6.cell? ⟨gb153, 1, none⟩ = some (.int .i64 a0_1) := (blk_cell BK153.out 1).trans rfl; have hfz7_0 := blk_frozen BK153.out 0; have hfz7_1 := blk_frozen BK153.out 1; have p154 : 0 ≤ (a1 : Int) := of_decide_eq_true (by first | (with_reducible assumption) | assumption); have q154 : a1 < (l0_0.length : Int) := of_decide_eq_true (by first | (with_reducible assumption) | assumption); obtain ⟨ad154, e154, hx154_0, hx154_1, hx154_2, hx154_3⟩ := at_T35 HR0_0.out a1 p154 q154; cases e154; replace hx154_0 := (HB.out.cell (World.block_lt_of_cell? w _ hx154_0)).trans hx154_0; replace hx154_1 := (HB.out.cell (World.block_lt_of_cell? w _ hx154_1)).trans hx154_1; replace hx154_2 := (HB.out.cell (World.block_lt_of_cell? w _ hx154_2)).trans hx154_2; replace hx154_3 := (HB.out.cell (World.block_lt_of_cell? w _ hx154_3)).trans hx154_3; replace p154 := eq_true p154; replace q154 := eq_true q154) | ((with_reducible refine gate_dst (N := 5) rfl ?_); refine box_event ?hg (N := 5) ?hd (cs := #[.int .i64 0, .int .i64 0, .int .i64 0, .int .i64 0]) (t := 35) ?hr ?_; (case hd => rfl); (case hg => rfl); (case hr => first | (go_simp; done) | (go_simp; rfl)); intro gb155 hg w8 hbox hb; have n0_ := Aside0.mk (blk_below (g := gb153) (o := .cells #[.slice (some ad154) l0_0.length c0_0, .int .i64 a0_1] 26 (0, 0)) (by (with_reducible repeat (first | refine blk_drewN ?_ _ | refine blk_drew ?_ | refine blk_alloc ?_ _)); exact BK153.out) hb); have n1_ := Aside0.mk (below_step (by repeat (first | (with_reducible first | exact HB.out | apply below_alloc | apply pw_below_drewN | apply below_drew1 | refine below_set ?_ GE153.out) | exact HB.out)) hb); have n2_ := Aside0.mk (hbox); have n3_ := Aside0.mk ((by rw [hg]; exact (below_size (by repeat (first | (with_reducible first | exact HB.out | apply below_alloc | apply pw_below_drewN | apply below_drew1 | refine below_set ?_ GE153.out) | exact HB.out))) : w.heap.size ≤ gb155)); have n4_ := Aside0.mk ((by rw [hg]; exact (below_size (by repeat (first | (with_reducible first | exact HB.out | apply below_alloc | apply pw_below_drewN | apply below_drew1 | refine below_set ?_ GE153.out) | exact HB.out))) : w.heap.size ≤ gb155)); have n5_ := Aside0.mk ((by rw [hg]; exact Nat.ne_of_lt (blk_lt (g := gb153) (o := .cells #[.slice (some ad154) l0_0.length c0_0, .int .i64 a0_1] 26 (0, 0)) (by (with_reducible repeat (first | refine blk_drewN ?_ _ | refine blk_drew ?_ | refine blk_alloc ?_ _)); exact BK153.out)) : gb153 ≠ gb155)); have n6_ := Aside0.mk ((by rw [hg]; exact Nat.ne_of_gt (blk_lt (g := gb153) (o := .cells #[.slice (some ad154) l0_0.length c0_0, .int .i64 a0_1] 26 (0, 0)) (by (with_reducible repeat (first | refine blk_drewN ?_ _ | refine blk_drew ?_ | refine blk_alloc ?_ _)); exact BK153.out)) : gb155 ≠ gb153)); clear BK153; clear HB; have BK153 := n0_; have HB := n1_; have BK155 := n2_; have GW155 := n3_; have GE155 := n4_; have NB153_155 := n5_; have NB155_153 := n6_; clear n0_ n1_ n2_ n3_ n4_ n5_ n6_; clear hb hbox hg; have hnb9 := NB155_153.out; have hnc9 := NB153_155.out; have hcz10_0 : w8.cell? ⟨gb155, 0, none⟩ = some (.int .i64 0) := (blk_cell BK155.out 0).trans rfl; have hcz10_1 : w8.cell? ⟨gb155, 1, none⟩ = some (.int .i64 0) := (blk_cell BK155.out 1).trans rfl; have hcz10_2 : w8.cell? ⟨gb155, 2, none⟩ = some (.int .i64 0) := (blk_cell BK155.out 2).trans rfl; have hcz10_3 : w8.cell? ⟨gb155, 3, none⟩ = some (.int .i64 0) := (blk_cell BK155.out 3).trans rfl; have hfz10_0 := blk_frozen BK155.out 0; have hfz10_1 := blk_frozen BK155.out 1; have hfz10_2 := blk_frozen BK155.out 2; have hfz10_3 := blk_frozen BK155.out 3)))
   (try simp only [Act.put, List.setIfInBounds_toArray, List.set_cons_zero, List.set_cons_succ])
   go_cut [11] (fun v11 wc => ∃ (kq : Nat) (x11_4 : Bool), v11 = .bool x11_4 ∧ Aside0 (tree_Tree_sound.j0 kq a1 x11_4 l0_0 a0_1 ((rd_T35 l0_0 a1).f0) ((rd_T35 l0_0 a1).f1) ((rd_T35 l0_0 a1).f2) ((rd_T35 l0_0 a1).f3) = some r) ∧ Aside0 (kq ≤ k) ∧ Aside0 (wc.heap[gb153]? = some (.cells #[(.slice (some ad154) l0_0.length c0_0), .int .i64 a0_1] 26 (0, 0))) ∧ Aside0 (wc.heap[gb155]? = some (.cells #[.int .i64 ((rd_T35 l0_0 a1).f0), .int .i64 ((rd_T35 l0_0 a1).f1), .int .i64 ((rd_T35 l0_0 a1).f2), .int .i64 ((rd_T35 l0_0 a1).f3)] 35 (0, 0))) ∧ Aside0 (Below w.heap.size w wc))
   case first =>
    have H := HC5.out
    clear HC5
    by_cases c11 : ((rd_T35 l0_0 a1).f0) < (-1)
    ·rw [if_pos c11] at H
     have c11b0 : decide (((rd_T35 l0_0 a1).f0) < (-1)) = true := decide_eq_true c11
     clear c11
     (first | rw [c11b0] | (simp only [i64_w, i32_w]; rw [c11b0]) | skip)
     have H' := Aside0.mk H
     clear H
     have hnb12 := NB155_153.out
     have hnc12 := NB153_155.out
     have hcz13_0 : w8.cell? ⟨gb155, 0, none⟩ = some (.int .i64 0) := (blk_cell BK155.out 0).trans rfl
     have hcz13_1 : w8.cell? ⟨gb155, 1, none⟩ = some (.int .i64 0) := (blk_cell BK155.out 1).trans rfl
     have hcz13_2 : w8.cell? ⟨gb155, 2, none⟩ = some (.int .i64 0) := (blk_cell BK155.out 2).trans rfl
     have hcz13_3 : w8.cell? ⟨gb155, 3, none⟩ = some (.int .i64 0) := (blk_cell BK155.out 3).trans rfl
     have hfz13_0 := blk_frozen BK155.out 0
     have hfz13_1 := blk_frozen BK155.out 1
     have hfz13_2 := blk_frozen BK155.out 2
     have hfz13_3 := blk_frozen BK155.out 3
     go_wp2
     repeat (go_quiet (fail); try go_wp2)
     go_meet
     case rel => exact ⟨_, (true), (by first | rfl | (simp; done) | (simp [*]; done)), H', ⟨by first | omega | exact Nat.le_refl _⟩, ⟨by (with_reducible repeat (first | refine blk_drewN ?_ _ | refine blk_drew ?_ | refine blk_alloc ?_ _)); refine blk_far ?_ NB153_155.out _; (with_reducible repeat (first | refine blk_drewN ?_ _ | refine blk_drew ?_ | refine blk_alloc ?_ _)); refine blk_far ?_ NB153_155.out _; (with_reducible repeat (first | refine blk_drewN ?_ _ | refine blk_drew ?_ | refine blk_alloc ?_ _)); refine blk_far ?_ NB153_155.out _; (with_reducible repeat (first | refine blk_drewN ?_ _ | refine blk_drew ?_ | refine blk_alloc ?_ _)); refine blk_far ?_ NB153_155.out _; (with_reducible repeat (first | refine blk_drewN ?_ _ | refine blk_drew ?_ | refine blk_alloc ?_ _)); exact BK153.out⟩, ⟨by (with_reducible repeat (first | refine blk_drewN ?_ _ | refine blk_drew ?_ | refine blk_alloc ?_ _)); refine blk_put (cs := #[.int .i64 ((rd_T35 l0_0 a1).f0), .int .i64 ((rd_T35 l0_0 a1).f1), .int .i64 ((rd_T35 l0_0 a1).f2), .int .i64 0]) ?_ 3 _ rfl; (with_reducible repeat (first | refine blk_drewN ?_ _ | refine blk_drew ?_ | refine blk_alloc ?_ _)); refine blk_put (cs := #[.int .i64 ((rd_T35 l0_0 a1).f0), .int .i64 ((rd_T35 l0_0 a1).f1), .int .i64 0, .int .i64 0]) ?_ 2 _ rfl; (with_reducible repeat (first | refine blk_drewN ?_ _ | refine blk_drew ?_ | refine blk_alloc ?_ _)); refine blk_put (cs := #[.int .i64 ((rd_T35 l0_0 a1).f0), .int .i64 0, .int .i64 0, .int .i64 0]) ?_ 1 _ rfl; (with_reducible repeat (first | refine blk_drewN ?_ _ | refine blk_drew ?_ | refine blk_alloc ?_ _)); refine blk_put (cs := #[.int .i64 0, .int .i64 0, .int .i64 0, .int .i64 0]) ?_ 0 _ rfl; (with_reducible repeat (first | refine blk_drewN ?_ _ | refine blk_drew ?_ | refine blk_alloc ?_ _)); exact BK155.out⟩, ⟨by repeat (first | (with_reducible first | exact HB.out | apply below_alloc | apply pw_below_drewN | apply below_drew1 | refine below_set ?_ GE153.out | refine below_set ?_ GE155.out) | exact HB.out)⟩⟩
    ·rw [if_neg c11] at H
     have c11b0 : decide (((rd_T35 l0_0 a1).f0) < (-1)) = false := decide_eq_false c11
     clear c11
     (first | rw [c11b0] | (simp only [i64_w, i32_w]; rw [c11b0]) | skip)
     by_cases c14 : ((rd_T35 l0_0 a1).f0) ≥ a1
     ·rw [if_pos c14] at H
      have c14b0 : decide (a1 ≤ ((rd_T35 l0_0 a1).f0)) = true := decide_eq_true c14
      clear c14
      have H' := Aside0.mk H
      clear H
      have hnb15 := NB155_153.out
      have hnc15 := NB153_155.out
      have hcz16_0 : w8.cell? ⟨gb155, 0, none⟩ = some (.int .i64 0) := (blk_cell BK155.out 0).trans rfl
      have hcz16_1 : w8.cell? ⟨gb155, 1, none⟩ = some (.int .i64 0) := (blk_cell BK155.out 1).trans rfl
      have hcz16_2 : w8.cell? ⟨gb155, 2, none⟩ = some (.int .i64 0) := (blk_cell BK155.out 2).trans rfl
      have hcz16_3 : w8.cell? ⟨gb155, 3, none⟩ = some (.int .i64 0) := (blk_cell BK155.out 3).trans rfl
      have hfz16_0 := blk_frozen BK155.out 0
      have hfz16_1 := blk_frozen BK155.out 1
      have hfz16_2 := blk_frozen BK155.out 2
      have hfz16_3 := blk_frozen BK155.out 3
      go_wp2
      repeat (go_quiet (fail); try go_wp2)
      go_meet
      case rel => exact ⟨_, (true), (by first | rfl | (simp; done) | (simp [*]; done)), H', ⟨by first | omega | exact Nat.le_refl _⟩, ⟨by (with_reducible repeat (first | refine blk_drewN ?_ _ | refine blk_drew ?_ | refine blk_alloc ?_ _)); refine blk_far ?_ NB153_155.out _; (with_reducible repeat (first | refine blk_drewN ?_ _ | refine blk_drew ?_ | refine blk_alloc ?_ _)); refine blk_far ?_ NB153_155.out _; (with_reducible repeat (first | refine blk_drewN ?_ _ | refine blk_drew ?_ | refine blk_alloc ?_ _)); refine blk_far ?_ NB153_155.out _; (with_reducible repeat (first | refine blk_drewN ?_ _ | refine blk_drew ?_ | refine blk_alloc ?_ _)); refine blk_far ?_ NB153_155.out _; (with_reducible repeat (first | refine blk_drewN ?_ _ | refine blk_drew ?_ | refine blk_alloc ?_ _)); exact BK153.out⟩, ⟨by (with_reducible repeat (first | refine blk_drewN ?_ _ | refine blk_drew ?_ | refine blk_alloc ?_ _)); refine blk_put (cs := #[.int .i64 ((rd_T35 l0_0 a1).f0), .int .i64 ((rd_T35 l0_0 a1).f1), .int .i64 ((rd_T35 l0_0 a1).f2), .int .i64 0]) ?_ 3 _ rfl; (with_reducible repeat (first | refine blk_drewN ?_ _ | refine blk_drew ?_ | refine blk_alloc ?_ _)); refine blk_put (cs := #[.int .i64 ((rd_T35 l0_0 a1).f0), .int .i64 ((rd_T35 l0_0 a1).f1), .int .i64 0, .int .i64 0]) ?_ 2 _ rfl; (with_reducible repeat (first | refine blk_drewN ?_ _ | refine blk_drew ?_ | refine blk_alloc ?_ _)); refine blk_put (cs := #[.int .i64 ((rd_T35 l0_0 a1).f0), .int .i64 0, .int .i64 0, .int .i64 0]) ?_ 1 _ rfl; (with_reducible repeat (first | refine blk_drewN ?_ _ | refine blk_drew ?_ | refine blk_alloc ?_ _)); refine blk_put (cs := #[.int .i64 0, .int .i64 0, .int .i64 0, .int .i64 0]) ?_ 0 _ rfl; (with_reducible repeat (first | refine blk_drewN ?_ _ | refine blk_drew ?_ | refine blk_alloc ?_ _)); exact BK155.out⟩, ⟨by repeat (first | (with_reducible first | exact HB.out | apply below_alloc | apply pw_below_drewN | apply below_drew1 | refine below_set ?_ GE153.out | refine below_set ?_ GE155.out) | exact HB.out)⟩⟩
     ·rw [if_neg c14] at H
      have c14b0 : decide (a1 ≤ ((rd_T35 l0_0 a1).f0)) = false := decide_eq_false c14
      clear c14
      by_cases c17 : ((rd_T35 l0_0 a1).f2) < 1
      ·rw [if_pos c17] at H
       have c17b0 : decide (((rd_T35 l0_0 a1).f2) < 1) = true := decide_eq_true c17
       clear c17
       have H' := Aside0.mk H
       clear H
       have hnb18 := NB155_153.out
       have hnc18 := NB153_155.out
       have hcz19_0 : w8.cell? ⟨gb155, 0, none⟩ = some (.int .i64 0) := (blk_cell BK155.out 0).trans rfl
       have hcz19_1 : w8.cell? ⟨gb155, 1, none⟩ = some (.int .i64 0) := (blk_cell BK155.out 1).trans rfl
       have hcz19_2 : w8.cell? ⟨gb155, 2, none⟩ = some (.int .i64 0) := (blk_cell BK155.out 2).trans rfl
       have hcz19_3 : w8.cell? ⟨gb155, 3, none⟩ = some (.int .i64 0) := (blk_cell BK155.out 3).trans rfl
       have hfz19_0 := blk_frozen BK155.out 0
       have hfz19_1 := blk_frozen BK155.out 1
       have hfz19_2 := blk_frozen BK155.out 2
       have hfz19_3 := blk_frozen BK155.out 3
       go_wp2
       repeat (go_quiet (fail); try go_wp2)
       go_meet
       case rel => exact ⟨_, (true), (by first | rfl | (simp; done) | (simp [*]; done)), H', ⟨by first | omega | exact Nat.le_refl _⟩, ⟨by (with_reducible repeat (first | refine blk_drewN ?_ _ | refine blk_drew ?_ | refine blk_alloc ?_ _)); refine blk_far ?_ NB153_155.out _; (with_reducible repeat (first | refine blk_drewN ?_ _ | refine blk_drew ?_ | refine blk_alloc ?_ _)); refine blk_far ?_ NB153_155.out _; (with_reducible repeat (first | refine blk_drewN ?_ _ | refine blk_drew ?_ | refine blk_alloc ?_ _)); refine blk_far ?_ NB153_155.out _; (with_reducible repeat (first | refine blk_drewN ?_ _ | refine blk_drew ?_ | refine blk_alloc ?_ _)); refine blk_far ?_ NB153_155.out _; (with_reducible repeat (first | refine blk_drewN ?_ _ | refine blk_drew ?_ | refine blk_alloc ?_ _)); exact BK153.out⟩, ⟨by (with_reducible repeat (first | refine blk_drewN ?_ _ | refine blk_drew ?_ | refine blk_alloc ?_ _)); refine blk_put (cs := #[.int .i64 ((rd_T35 l0_0 a1).f0), .int .i64 ((rd_T35 l0_0 a1).f1), .int .i64 ((rd_T35 l0_0 a1).f2), .int .i64 0]) ?_ 3 _ rfl; (with_reducible repeat (first | refine blk_drewN ?_ _ | refine blk_drew ?_ | refine blk_alloc ?_ _)); refine blk_put (cs := #[.int .i64 ((rd_T35 l0_0 a1).f0), .int .i64 ((rd_T35 l0_0 a1).f1), .int .i64 0, .int .i64 0]) ?_ 2 _ rfl; (with_reducible repeat (first | refine blk_drewN ?_ _ | refine blk_drew ?_ | refine blk_alloc ?_ _)); refine blk_put (cs := #[.int .i64 ((rd_T35 l0_0 a1).f0), .int .i64 0, .int .i64 0, .int .i64 0]) ?_ 1 _ rfl; (with_reducible repeat (first | refine blk_drewN ?_ _ | refine blk_drew ?_ | refine blk_alloc ?_ _)); refine blk_put (cs := #[.int .i64 0, .int .i64 0, .int .i64 0, .int .i64 0]) ?_ 0 _ rfl; (with_reducible repeat (first | refine blk_drewN ?_ _ | refine blk_drew ?_ | refine blk_alloc ?_ _)); exact BK155.out⟩, ⟨by repeat (first | (with_reducible first | exact HB.out | apply below_alloc | apply pw_below_drewN | apply below_drew1 | refine below_set ?_ GE153.out | refine below_set ?_ GE155.out) | exact HB.out)⟩⟩
      ·rw [if_neg c17] at H
       have c17b0 : decide (((rd_T35 l0_0 a1).f2) < 1) = false := decide_eq_false c17
       clear c17
       have H' := Aside0.mk H
       clear H
       have hnb20 := NB155_153.out
       have hnc20 := NB153_155.out
       have hcz21_0 : w8.cell? ⟨gb155, 0, none⟩ = some (.int .i64 0) := (blk_cell BK155.out 0).trans rfl
       have hcz21_1 : w8.cell? ⟨gb155, 1, none⟩ = some (.int .i64 0) := (blk_cell BK155.out 1).trans rfl
       have hcz21_2 : w8.cell? ⟨gb155, 2, none⟩ = some (.int .i64 0) := (blk_cell BK155.out 2).trans rfl
       have hcz21_3 : w8.cell? ⟨gb155, 3, none⟩ = some (.int .i64 0) := (blk_cell BK155.out 3).trans rfl
       have hfz21_0 := blk_frozen BK155.out 0
       have hfz21_1 := blk_frozen BK155.out 1
       have hfz21_2 := blk_frozen BK155.out 2
       have hfz21_3 := blk_frozen BK155.out 3
       have hcz22_0 : w8.cell? ⟨gb153, 0, none⟩ = some (.slice (some ad154) l0_0.length c0_0) := (blk_cell BK153.out 0).trans rfl
       have hcz22_1 : w8.cell? ⟨gb153, 1, none⟩ = some (.int .i64 a0_1) := (blk_cell BK153.out 1).trans rfl
       have hfz22_0 := blk_frozen BK153.out 0
       have hfz22_1 := blk_frozen BK153.out 1
       go_wp2
       repeat (go_quiet (fail); try go_wp2)
       go_meet
       case rel => exact ⟨_, (decide (((rd_T35 l0_0 a1).f2) > a0_1)), (by first | rfl | (simp; done) | (simp [*]; done)), H', ⟨by first | omega | exact Nat.le_refl _⟩, ⟨by (with_reducible repeat (first | refine blk_drewN ?_ _ | refine blk_drew ?_ | refine blk_alloc ?_ _)); refine blk_far ?_ NB153_155.out _; (with_reducible repeat (first | refine blk_drewN ?_ _ | refine blk_drew ?_ | refine blk_alloc ?_ _)); refine blk_far ?_ NB153_155.out _; (with_reducible repeat (first | refine blk_drewN ?_ _ | refine blk_drew ?_ | refine blk_alloc ?_ _)); refine blk_far ?_ NB153_155.out _; (with_reducible repeat (first | refine blk_drewN ?_ _ | refine blk_drew ?_ | refine blk_alloc ?_ _)); refine blk_far ?_ NB153_155.out _; (with_reducible repeat (first | refine blk_drewN ?_ _ | refine blk_drew ?_ | refine blk_alloc ?_ _)); exact BK153.out⟩, ⟨by (with_reducible repeat (first | refine blk_drewN ?_ _ | refine blk_drew ?_ | refine blk_alloc ?_ _)); refine blk_put (cs := #[.int .i64 ((rd_T35 l0_0 a1).f0), .int .i64 ((rd_T35 l0_0 a1).f1), .int .i64 ((rd_T35 l0_0 a1).f2), .int .i64 0]) ?_ 3 _ rfl; (with_reducible repeat (first | refine blk_drewN ?_ _ | refine blk_drew ?_ | refine blk_alloc ?_ _)); refine blk_put (cs := #[.int .i64 ((rd_T35 l0_0 a1).f0), .int .i64 ((rd_T35 l0_0 a1).f1), .int .i64 0, .int .i64 0]) ?_ 2 _ rfl; (with_reducible repeat (first | refine blk_drewN ?_ _ | refine blk_drew ?_ | refine blk_alloc ?_ _)); refine blk_put (cs := #[.int .i64 ((rd_T35 l0_0 a1).f0), .int .i64 0, .int .i64 0, .int .i64 0]) ?_ 1 _ rfl; (with_reducible repeat (first | refine blk_drewN ?_ _ | refine blk_drew ?_ | refine blk_alloc ?_ _)); refine blk_put (cs := #[.int .i64 0, .int .i64 0, .int .i64 0, .int .i64 0]) ?_ 0 _ rfl; (with_reducible repeat (first | refine blk_drewN ?_ _ | refine blk_drew ?_ | refine blk_alloc ?_ _)); exact BK155.out⟩, ⟨by repeat (first | (with_reducible first | exact HB.out | apply below_alloc | apply pw_below_drewN | apply below_drew1 | refine below_set ?_ GE153.out | refine below_set ?_ GE155.out) | exact HB.out)⟩⟩
   case rest =>
    clear HC5
    try clear c1
    try clear p1
    try clear q1
    try clear hx1
    try clear c2
    try clear p2
    try clear c3
    try clear c3b0
    try clear c4
    try clear c4b0
    try clear c9
    try clear c11
    try clear c11b0
    try clear c12
    try clear c14
    try clear c14b0
    try clear c15
    try clear p15
    try clear q15
    try clear hx15
    try clear c17
    try clear c17b0
    try clear c18
    try clear c20
    try clear hcz10_0
    try clear hcz10_1
    try clear hcz10_2
    try clear hcz10_3
    try clear hcz13_0
    try clear hcz13_1
    try clear hcz13_2
    try clear hcz13_3
    try clear hcz16_0
    try clear hcz16_1
    try clear hcz16_2
    try clear hcz16_3
    try clear hcz19_0
    try clear hcz19_1
    try clear hcz19_2
    try clear hcz19_3
    try clear hcz21_0
    try clear hcz21_1
    try clear hcz21_2
    try clear hcz21_3
    try clear hcz22_0
    try clear hcz22_1
    try clear hcz7_0
    try clear hcz7_1
    try clear hfz10_0
    try clear hfz10_1
    try clear hfz10_2
    try clear hfz10_3
    try clear hfz13_0
    try clear hfz13_1
    try clear hfz13_2
    try clear hfz13_3
    try clear hfz16_0
    try clear hfz16_1
    try clear hfz16_2
    try clear hfz16_3
    try clear hfz19_0
    try clear hfz19_1
    try clear hfz19_2
    try clear hfz19_3
    try clear hfz21_0
    try clear hfz21_1
    try clear hfz21_2
    try clear hfz21_3
    try clear hfz22_0
    try clear hfz22_1
    try clear hfz7_0
    try clear hfz7_1
    try clear hx154_0
    try clear hx154_1
    try clear hx154_2
    try clear hx154_3
    try clear p154
    try clear q154
    obtain ⟨kq, x11_4, rfl, HA, HJ4, BK153, BK155, HB⟩ := hcut
    cases kq with
    | zero => exact absurd HA.out (by simp [tree_Tree_sound.j0])
    | succ kj4 =>
     have H := HA.out
     clear HA
     simp only [tree_Tree_sound.j0] at H
     by_cases c23 : x11_4 = true
     ·subst c23
      have H1 : (some false) = some r := by rw [if_pos rfl] at H; exact H
      clear H
      have H := H1
      clear H1
      obtain rfl := Option.some.inj H
      go_wp2
      repeat (go_quiet (fail); try go_wp2)
      go_ret
      exact ⟨by first | rfl | (simp [errW_none, errW_some] <;> rfl) | (simp [*, errW_none, errW_some] <;> rfl), by repeat (first | (with_reducible first | exact HB.out | apply below_alloc | apply pw_below_drewN | apply below_drew1 | refine below_set ?_ GE153.out | refine below_set ?_ GE155.out) | exact HB.out)⟩
     ·replace c23 := Bool.eq_false_iff.mpr c23
      subst c23
      have H1 : (if a1 > 0 then (if 0 ≤ (wrap64 (a1 - 1)) then (if (wrap64 (a1 - 1)) < (l0_0.length : Int) then (tree_Tree_sound.j1 kj4 (decide (((rd_T35 l0_0 (wrap64 (a1 - 1))).f2) ≥ ((rd_T35 l0_0 a1).f2))) l0_0 a0_1 ((rd_T35 l0_0 a1).f0) ((rd_T35 l0_0 a1).f1) ((rd_T35 l0_0 a1).f2) ((rd_T35 l0_0 a1).f3)) else (none)) else (none)) else (tree_Tree_sound.j1 kj4 false l0_0 a0_1 ((rd_T35 l0_0 a1).f0) ((rd_T35 l0_0 a1).f1) ((rd_T35 l0_0 a1).f2) ((rd_T35 l0_0 a1).f3))) = some r := by rw [if_neg (show ¬ (false = true) by decide)] at H; exact H
      clear H
      have H := H1
      clear H1
      have HC24 := Aside0.mk H
      clear H
      go_upto_region 4 with (fail)
      repeat (go_quiet (fail); go_upto_region 4 with (fail))
      go_cut [33] (fun v33 wc => ∃ (kq : Nat) (x33_23 : Bool), v33 = .bool x33_23 ∧ Aside0 (tree_Tree_sound.j1 kq x33_23 l0_0 a0_1 ((rd_T35 l0_0 a1).f0) ((rd_T35 l0_0 a1).f1) ((rd_T35 l0_0 a1).f2) ((rd_T35 l0_0 a1).f3) = some r) ∧ Aside0 (kq ≤ kj4) ∧ Aside0 (wc.heap[gb153]? = some (.cells #[(.slice (some ad154) l0_0.length c0_0), .int .i64 a0_1] 26 (0, 0))) ∧ Aside0 (wc.heap[gb155]? = some (.cells #[.int .i64 ((rd_T35 l0_0 a1).f0), .int .i64 ((rd_T35 l0_0 a1).f1), .int .i64 ((rd_T35 l0_0 a1).f2), .int .i64 ((rd_T35 l0_0 a1).f3)] 35 (0, 0))) ∧ Aside0 (Below w.heap.size w wc))
      case first =>
       have H := HC24.out
       clear HC24
       by_cases c25 : a1 > 0
       ·rw [if_pos c25] at H
        have c25b0 : decide (0 < a1) = true := decide_eq_true c25
        clear c25
        (first | rw [c25b0] | (simp only [i64_w, i32_w]; rw [c25b0]) | skip)
        obtain ⟨ji26, hji26⟩ : ∃ j_ : Int, (wrap64 (a1 - 1)) = j_ := ⟨_, rfl⟩
        replace H : (if 0 ≤ (ji26) then (if (ji26) < (l0_0.length : Int) then (tree_Tree_sound.j1 kj4 (decide (((rd_T35 l0_0 (ji26)).f2) ≥ ((rd_T35 l0_0 a1).f2))) l0_0 a0_1 ((rd_T35 l0_0 a1).f0) ((rd_T35 l0_0 a1).f1) ((rd_T35 l0_0 a1).f2) ((rd_T35 l0_0 a1).f3)) else (none)) else (none)) = some r := by first | (rw [hji26] at H; exact H) | (simp only [hji26] at H ⊢; exact H)
        have hji26w : (IntKind.i64.wrap (a1 - 1)) = ji26 := (i64_w _).trans hji26
        by_cases c27 : 0 ≤ (ji26)
        ·rw [if_pos c27] at H
         have c27b0 : decide (0 ≤ (ji26)) = true := decide_eq_true c27
         clear c27
         by_cases c28 : (ji26) < (l0_0.length : Int)
         ·rw [if_pos c28] at H
          have c28b0 : decide ((ji26) < (l0_0.length : Int)) = true := decide_eq_true c28
          clear c28
          have H' := Aside0.mk H
          clear H
          have hnb29 := NB153_155.out
          have hnc29 := NB155_153.out
          have hcz30_0 : wc.cell? ⟨gb153, 0, none⟩ = some (.slice (some ad154) l0_0.length c0_0) := (blk_cell BK153.out 0).trans rfl
          have hcz30_1 : wc.cell? ⟨gb153, 1, none⟩ = some (.int .i64 a0_1) := (blk_cell BK153.out 1).trans rfl
          have hfz30_0 := blk_frozen BK153.out 0
          have hfz30_1 := blk_frozen BK153.out 1
          have p156 : 0 ≤ ((ji26) : Int) := of_decide_eq_true (by first | (with_reducible assumption) | assumption)
          have q156 : (ji26) < (l0_0.length : Int) := of_decide_eq_true (by first | (with_reducible assumption) | assumption)
          obtain ⟨ad156, e156, hx156_0, hx156_1, hx156_2, hx156_3⟩ := at_T35 HR0_0.out (ji26) p156 q156
          obtain rfl : ad154 = ad156 := (by injection e156)
          replace hx156_0 := (HB.out.cell (World.block_lt_of_cell? w _ hx156_0)).trans hx156_0
          replace hx156_1 := (HB.out.cell (World.block_lt_of_cell? w _ hx156_1)).trans hx156_1
          replace hx156_2 := (HB.out.cell (World.block_lt_of_cell? w _ hx156_2)).trans hx156_2
          replace hx156_3 := (HB.out.cell (World.block_lt_of_cell? w _ hx156_3)).trans hx156_3
          replace p156 := eq_true p156
          replace q156 := eq_true q156
          have hcz31_0 : wc.cell? ⟨gb155, 0, none⟩ = some (.int .i64 ((rd_T35 l0_0 a1).f0)) := (blk_cell BK155.out 0).trans rfl
          have hcz31_1 : wc.cell? ⟨gb155, 1, none⟩ = some (.int .i64 ((rd_T35 l0_0 a1).f1)) := (blk_cell BK155.out 1).trans rfl
          have hcz31_2 : wc.cell? ⟨gb155, 2, none⟩ = some (.int .i64 ((rd_T35 l0_0 a1).f2)) := (blk_cell BK155.out 2).trans rfl
          have hcz31_3 : wc.cell? ⟨gb155, 3, none⟩ = some (.int .i64 ((rd_T35 l0_0 a1).f3)) := (blk_cell BK155.out 3).trans rfl
          have hfz31_0 := blk_frozen BK155.out 0
          have hfz31_1 := blk_frozen BK155.out 1
          have hfz31_2 := blk_frozen BK155.out 2
          have hfz31_3 := blk_frozen BK155.out 3
          go_wp2
          repeat (go_quiet (fail); try go_wp2)
          go_meet
          case rel => exact ⟨_, (decide (((rd_T35 l0_0 (ji26)).f2) ≥ ((rd_T35 l0_0 a1).f2))), (by first | rfl | (simp; done) | (simp only [← hji26] <;> (first | rfl | simp)) | (simp [*]; done)), (by first | exact H' | (rw [hji26]; exact H') | (simp only [hji26]; exact H')), ⟨by have := HJ4.out; first | omega | exact Nat.le_refl _⟩, ⟨by (with_reducible repeat (first | refine blk_drewN ?_ _ | refine blk_drew ?_ | refine blk_alloc ?_ _)); exact BK153.out⟩, ⟨by (with_reducible repeat (first | refine blk_drewN ?_ _ | refine blk_drew ?_ | refine blk_alloc ?_ _)); exact BK155.out⟩, ⟨by repeat (first | (with_reducible first | exact HB.out | apply below_alloc | apply pw_below_drewN | apply below_drew1 | refine below_set ?_ GE153.out | refine below_set ?_ GE155.out) | exact HB.out)⟩⟩
         ·rw [if_neg c28] at H
          exact absurd H (by simp)
        ·rw [if_neg c27] at H
         exact absurd H (by simp)
       ·rw [if_neg c25] at H
        have c25b0 : decide (0 < a1) = false := decide_eq_false c25
        clear c25
        (first | rw [c25b0] | (simp only [i64_w, i32_w]; rw [c25b0]) | skip)
        have H' := Aside0.mk H
        clear H
        go_wp2
        repeat (go_quiet (fail); try go_wp2)
        go_meet
        case rel => exact ⟨_, (false), (by first | rfl | (simp; done) | (simp [*]; done)), H', ⟨by have := HJ4.out; first | omega | exact Nat.le_refl _⟩, ⟨by (with_reducible repeat (first | refine blk_drewN ?_ _ | refine blk_drew ?_ | refine blk_alloc ?_ _)); exact BK153.out⟩, ⟨by (with_reducible repeat (first | refine blk_drewN ?_ _ | refine blk_drew ?_ | refine blk_alloc ?_ _)); exact BK155.out⟩, ⟨by repeat (first | (with_reducible first | exact HB.out | apply below_alloc | apply pw_below_drewN | apply below_drew1 | refine below_set ?_ GE153.out | refine below_set ?_ GE155.out) | exact HB.out)⟩⟩
      case rest =>
       clear HC24
       try clear c1
       try clear p1
       try clear q1
       try clear hx1
       try clear c2
       try clear p2
       try clear c3
       try clear c3b0
       try clear c4
       try clear c4b0
       try clear p6
       try clear c9
       try clear c11
       try clear c11b0
       try clear c12
       try clear c14
       try clear c14b0
       try clear c15
       try clear p15
       try clear q15
       try clear hx15
       try clear c17
       try clear c17b0
       try clear c18
       try clear c20
       try clear c23
       try clear c25
       try clear c25b0
       try clear c27
       try clear c27b0
       try clear c28
       try clear c28b0
       try clear c29
       try clear c31
       try clear hcz10_0
       try clear hcz10_1
       try clear hcz10_2
       try clear hcz10_3
       try clear hcz13_0
       try clear hcz13_1
       try clear hcz13_2
       try clear hcz13_3
       try clear hcz16_0
       try clear hcz16_1
       try clear hcz16_2
       try clear hcz16_3
       try clear hcz19_0
       try clear hcz19_1
       try clear hcz19_2
       try clear hcz19_3
       try clear hcz21_0
       try clear hcz21_1
       try clear hcz21_2
       try clear hcz21_3
       try clear hcz22_0
       try clear hcz22_1
       try clear hcz30_0
       try clear hcz30_1
       try clear hcz31_0
       try clear hcz31_1
       try clear hcz31_2
       try clear hcz31_3
       try clear hcz7_0
       try clear hcz7_1
       try clear hfz10_0
       try clear hfz10_1
       try clear hfz10_2
       try clear hfz10_3
       try clear hfz13_0
       try clear hfz13_1
       try clear hfz13_2
       try clear hfz13_3
       try clear hfz16_0
       try clear hfz16_1
       try clear hfz16_2
       try clear hfz16_3
       try clear hfz19_0
       try clear hfz19_1
       try clear hfz19_2
       try clear hfz19_3
       try clear hfz21_0
       try clear hfz21_1
       try clear hfz21_2
       try clear hfz21_3
       try clear hfz22_0
       try clear hfz22_1
       try clear hfz30_0
       try clear hfz30_1
       try clear hfz31_0
       try clear hfz31_1
       try clear hfz31_2
       try clear hfz31_3
       try clear hfz7_0
       try clear hfz7_1
       try clear hx154_0
       try clear hx154_1
       try clear hx154_2
       try clear hx154_3
       try clear hx156_0
       try clear hx156_1
       try clear hx156_2
       try clear hx156_3
       try clear p1
       try clear p15
       try clear p154
       try clear p156
       try clear p2
       try clear q1
       try clear q15
       try clear q154
       try clear q156
       obtain ⟨kq, x33_23, rfl, HA, HJ23, BK153, BK155, HB⟩ := hcut
       cases kq with
       | zero => exact absurd HA.out (by simp [tree_Tree_sound.j1])
       | succ kj23 =>
        have H := HA.out
        clear HA
        simp only [tree_Tree_sound.j1] at H
        by_cases c32 : x33_23 = true
        ·subst c32
         have H1 : (some false) = some r := by rw [if_pos rfl] at H; exact H
         clear H
         have H := H1
         clear H1
         obtain rfl := Option.some.inj H
         go_wp2
         repeat (go_quiet (fail); try go_wp2)
         go_ret
         exact ⟨by first | rfl | (simp [errW_none, errW_some] <;> rfl) | (simp [*, errW_none, errW_some] <;> rfl), by repeat (first | (with_reducible first | exact HB.out | apply below_alloc | apply pw_below_drewN | apply below_drew1 | refine below_set ?_ GE153.out | refine below_set ?_ GE155.out) | exact HB.out)⟩
        ·replace c32 := Bool.eq_false_iff.mpr c32
         subst c32
         have H1 : (if ((rd_T35 l0_0 a1).f1) = 1 then (some (((rd_T35 l0_0 a1).f3) == 0)) else (if ((rd_T35 l0_0 a1).f1) = 2 then (if ((rd_T35 l0_0 a1).f3) > ((rd_T35 l0_0 a1).f2) then (some (decide (((rd_T35 l0_0 a1).f3) ≤ a0_1))) else (some false)) else (if ((rd_T35 l0_0 a1).f1) = 3 then (if ((rd_T35 l0_0 a1).f3) > ((rd_T35 l0_0 a1).f2) then (some (decide (((rd_T35 l0_0 a1).f3) ≤ a0_1))) else (some false)) else (some false)))) = some r := by rw [if_neg (show ¬ (false = true) by decide)] at H; exact H
         clear H
         have H := H1
         clear H1
         by_cases c33 : ((rd_T35 l0_0 a1).f1) = 1
         ·rw [if_pos c33] at H
          have c33b0 : (((rd_T35 l0_0 a1).f1) == 1) = true := beq_iff_eq.mpr c33
          have c33b1 : (((rd_T35 l0_0 a1).f1) != 1) = false := bne_eq_false_iff_eq.mpr c33
          clear c33
          obtain rfl := Option.some.inj H
          have hnb34 := NB155_153.out
          have hnc34 := NB153_155.out
          have hcz35_0 : wc.cell? ⟨gb155, 0, none⟩ = some (.int .i64 ((rd_T35 l0_0 a1).f0)) := (blk_cell BK155.out 0).trans rfl
          have hcz35_1 : wc.cell? ⟨gb155, 1, none⟩ = some (.int .i64 ((rd_T35 l0_0 a1).f1)) := (blk_cell BK155.out 1).trans rfl
          have hcz35_2 : wc.cell? ⟨gb155, 2, none⟩ = some (.int .i64 ((rd_T35 l0_0 a1).f2)) := (blk_cell BK155.out 2).trans rfl
          have hcz35_3 : wc.cell? ⟨gb155, 3, none⟩ = some (.int .i64 ((rd_T35 l0_0 a1).f3)) := (blk_cell BK155.out 3).trans rfl
          have hfz35_0 := blk_frozen BK155.out 0
          have hfz35_1 := blk_frozen BK155.out 1
          have hfz35_2 := blk_frozen BK155.out 2
          have hfz35_3 := blk_frozen BK155.out 3
          go_wp2
          repeat (go_quiet (fail); try go_wp2)
          go_ret
          exact ⟨by first | rfl | (simp [errW_none, errW_some] <;> rfl) | (simp [*, errW_none, errW_some] <;> rfl), by repeat (first | (with_reducible first | exact HB.out | apply below_alloc | apply pw_below_drewN | apply below_drew1 | refine below_set ?_ GE153.out | refine below_set ?_ GE155.out) | exact HB.out)⟩
         ·rw [if_neg c33] at H
          have c33b0 : (((rd_T35 l0_0 a1).f1) == 1) = false := beq_eq_false_iff_ne.mpr c33
          have c33b1 : (((rd_T35 l0_0 a1).f1) != 1) = true := bne_iff_ne.mpr c33
          by_cases c36 : ((rd_T35 l0_0 a1).f1) = 2
          ·rw [if_pos c36] at H
           have c36b0 : (((rd_T35 l0_0 a1).f1) == 2) = true := beq_iff_eq.mpr c36
           have c36b1 : (((rd_T35 l0_0 a1).f1) != 2) = false := bne_eq_false_iff_eq.mpr c36
           clear c36
           by_cases c37 : ((rd_T35 l0_0 a1).f3) > ((rd_T35 l0_0 a1).f2)
           ·rw [if_pos c37] at H
            have c37b0 : decide (((rd_T35 l0_0 a1).f2) < ((rd_T35 l0_0 a1).f3)) = true := decide_eq_true c37
            clear c37
            obtain rfl := Option.some.inj H
            have hnb38 := NB155_153.out
            have hnc38 := NB153_155.out
            have hcz39_0 : wc.cell? ⟨gb155, 0, none⟩ = some (.int .i64 ((rd_T35 l0_0 a1).f0)) := (blk_cell BK155.out 0).trans rfl
            have hcz39_1 : wc.cell? ⟨gb155, 1, none⟩ = some (.int .i64 ((rd_T35 l0_0 a1).f1)) := (blk_cell BK155.out 1).trans rfl
            have hcz39_2 : wc.cell? ⟨gb155, 2, none⟩ = some (.int .i64 ((rd_T35 l0_0 a1).f2)) := (blk_cell BK155.out 2).trans rfl
            have hcz39_3 : wc.cell? ⟨gb155, 3, none⟩ = some (.int .i64 ((rd_T35 l0_0 a1).f3)) := (blk_cell BK155.out 3).trans rfl
            have hfz39_0 := blk_frozen BK155.out 0
            have hfz39_1 := blk_frozen BK155.out 1
            have hfz39_2 := blk_frozen BK155.out 2
            have hfz39_3 := blk_frozen BK155.out 3
            have hcz40_0 : wc.cell? ⟨gb153, 0, none⟩ = some (.slice (some ad154) l0_0.length c0_0) := (blk_cell BK153.out 0).trans rfl
            have hcz40_1 : wc.cell? ⟨gb153, 1, none⟩ = some (.int .i64 a0_1) := (blk_cell BK153.out 1).trans rfl
            have hfz40_0 := blk_frozen BK153.out 0
            have hfz40_1 := blk_frozen BK153.out 1
            go_wp2
            repeat (go_quiet (fail); try go_wp2)
            go_ret
            exact ⟨by first | rfl | (simp [errW_none, errW_some] <;> rfl) | (simp [*, errW_none, errW_some] <;> rfl), by repeat (first | (with_reducible first | exact HB.out | apply below_alloc | apply pw_below_drewN | apply below_drew1 | refine below_set ?_ GE153.out | refine below_set ?_ GE155.out) | exact HB.out)⟩
           ·rw [if_neg c37] at H
            have c37b0 : decide (((rd_T35 l0_0 a1).f2) < ((rd_T35 l0_0 a1).f3)) = false := decide_eq_false c37
            clear c37
            obtain rfl := Option.some.inj H
            have hnb41 := NB155_153.out
            have hnc41 := NB153_155.out
            have hcz42_0 : wc.cell? ⟨gb155, 0, none⟩ = some (.int .i64 ((rd_T35 l0_0 a1).f0)) := (blk_cell BK155.out 0).trans rfl
            have hcz42_1 : wc.cell? ⟨gb155, 1, none⟩ = some (.int .i64 ((rd_T35 l0_0 a1).f1)) := (blk_cell BK155.out 1).trans rfl
            have hcz42_2 : wc.cell? ⟨gb155, 2, none⟩ = some (.int .i64 ((rd_T35 l0_0 a1).f2)) := (blk_cell BK155.out 2).trans rfl
            have hcz42_3 : wc.cell? ⟨gb155, 3, none⟩ = some (.int .i64 ((rd_T35 l0_0 a1).f3)) := (blk_cell BK155.out 3).trans rfl
            have hfz42_0 := blk_frozen BK155.out 0
            have hfz42_1 := blk_frozen BK155.out 1
            have hfz42_2 := blk_frozen BK155.out 2
            have hfz42_3 := blk_frozen BK155.out 3
            go_wp2
            repeat (go_quiet (fail); try go_wp2)
            go_ret
            exact ⟨by first | rfl | (simp [errW_none, errW_some] <;> rfl) | (simp [*, errW_none, errW_some] <;> rfl), by repeat (first | (with_reducible first | exact HB.out | apply below_alloc | apply pw_below_drewN | apply below_drew1 | refine below_set ?_ GE153.out | refine below_set ?_ GE155.out) | exact HB.out)⟩
          ·rw [if_neg c36] at H
           have c36b0 : (((rd_T35 l0_0 a1).f1) == 2) = false := beq_eq_false_iff_ne.mpr c36
           have c36b1 : (((rd_T35 l0_0 a1).f1) != 2) = true := bne_iff_ne.mpr c36
           by_cases c43 : ((rd_T35 l0_0 a1).f1) = 3
           ·rw [if_pos c43] at H
            have c43b0 : (((rd_T35 l0_0 a1).f1) == 3) = true := beq_iff_eq.mpr c43
            have c43b1 : (((rd_T35 l0_0 a1).f1) != 3) = false := bne_eq_false_iff_eq.mpr c43
            clear c43
            by_cases c44 : ((rd_T35 l0_0 a1).f3) > ((rd_T35 l0_0 a1).f2)
            ·rw [if_pos c44] at H
             have c44b0 : decide (((rd_T35 l0_0 a1).f2) < ((rd_T35 l0_0 a1).f3)) = true := decide_eq_true c44
             clear c44
             obtain rfl := Option.some.inj H
             have hnb45 := NB155_153.out
             have hnc45 := NB153_155.out
             have hcz46_0 : wc.cell? ⟨gb155, 0, none⟩ = some (.int .i64 ((rd_T35 l0_0 a1).f0)) := (blk_cell BK155.out 0).trans rfl
             have hcz46_1 : wc.cell? ⟨gb155, 1, none⟩ = some (.int .i64 ((rd_T35 l0_0 a1).f1)) := (blk_cell BK155.out 1).trans rfl
             have hcz46_2 : wc.cell? ⟨gb155, 2, none⟩ = some (.int .i64 ((rd_T35 l0_0 a1).f2)) := (blk_cell BK155.out 2).trans rfl
             have hcz46_3 : wc.cell? ⟨gb155, 3, none⟩ = some (.int .i64 ((rd_T35 l0_0 a1).f3)) := (blk_cell BK155.out 3).trans rfl
             have hfz46_0 := blk_frozen BK155.out 0
             have hfz46_1 := blk_frozen BK155.out 1
             have hfz46_2 := blk_frozen BK155.out 2
             have hfz46_3 := blk_frozen BK155.out 3
             have hcz47_0 : wc.cell? ⟨gb153, 0, none⟩ = some (.slice (some ad154) l0_0.length c0_0) := (blk_cell BK153.out 0).trans rfl
             have hcz47_1 : wc.cell? ⟨gb153, 1, none⟩ = some (.int .i64 a0_1) := (blk_cell BK153.out 1).trans rfl
             have hfz47_0 := blk_frozen BK153.out 0
             have hfz47_1 := blk_frozen BK153.out 1
             go_wp2
             repeat (go_quiet (fail); try go_wp2)
             go_ret
             exact ⟨by first | rfl | (simp [errW_none, errW_some] <;> rfl) | (simp [*, errW_none, errW_some] <;> rfl), by repeat (first | (with_reducible first | exact HB.out | apply below_alloc | apply pw_below_drewN | apply below_drew1 | refine below_set ?_ GE153.out | refine below_set ?_ GE155.out) | exact HB.out)⟩
            ·rw [if_neg c44] at H
             have c44b0 : decide (((rd_T35 l0_0 a1).f2) < ((rd_T35 l0_0 a1).f3)) = false := decide_eq_false c44
             clear c44
             obtain rfl := Option.some.inj H
             have hnb48 := NB155_153.out
             have hnc48 := NB153_155.out
             have hcz49_0 : wc.cell? ⟨gb155, 0, none⟩ = some (.int .i64 ((rd_T35 l0_0 a1).f0)) := (blk_cell BK155.out 0).trans rfl
             have hcz49_1 : wc.cell? ⟨gb155, 1, none⟩ = some (.int .i64 ((rd_T35 l0_0 a1).f1)) := (blk_cell BK155.out 1).trans rfl
             have hcz49_2 : wc.cell? ⟨gb155, 2, none⟩ = some (.int .i64 ((rd_T35 l0_0 a1).f2)) := (blk_cell BK155.out 2).trans rfl
             have hcz49_3 : wc.cell? ⟨gb155, 3, none⟩ = some (.int .i64 ((rd_T35 l0_0 a1).f3)) := (blk_cell BK155.out 3).trans rfl
             have hfz49_0 := blk_frozen BK155.out 0
             have hfz49_1 := blk_frozen BK155.out 1
             have hfz49_2 := blk_frozen BK155.out 2
             have hfz49_3 := blk_frozen BK155.out 3
             go_wp2
             repeat (go_quiet (fail); try go_wp2)
             go_ret
             exact ⟨by first | rfl | (simp [errW_none, errW_some] <;> rfl) | (simp [*, errW_none, errW_some] <;> rfl), by repeat (first | (with_reducible first | exact HB.out | apply below_alloc | apply pw_below_drewN | apply below_drew1 | refine below_set ?_ GE153.out | refine below_set ?_ GE155.out) | exact HB.out)⟩
           ·rw [if_neg c43] at H
            have c43b0 : (((rd_T35 l0_0 a1).f1) == 3) = false := beq_eq_false_iff_ne.mpr c43
            have c43b1 : (((rd_T35 l0_0 a1).f1) != 3) = true := bne_iff_ne.mpr c43
            obtain rfl := Option.some.inj H
            have hnb50 := NB155_153.out
            have hnc50 := NB153_155.out
            have hcz51_0 : wc.cell? ⟨gb155, 0, none⟩ = some (.int .i64 ((rd_T35 l0_0 a1).f0)) := (blk_cell BK155.out 0).trans rfl
            have hcz51_1 : wc.cell? ⟨gb155, 1, none⟩ = some (.int .i64 ((rd_T35 l0_0 a1).f1)) := (blk_cell BK155.out 1).trans rfl
            have hcz51_2 : wc.cell? ⟨gb155, 2, none⟩ = some (.int .i64 ((rd_T35 l0_0 a1).f2)) := (blk_cell BK155.out 2).trans rfl
            have hcz51_3 : wc.cell? ⟨gb155, 3, none⟩ = some (.int .i64 ((rd_T35 l0_0 a1).f3)) := (blk_cell BK155.out 3).trans rfl
            have hfz51_0 := blk_frozen BK155.out 0
            have hfz51_1 := blk_frozen BK155.out 1
            have hfz51_2 := blk_frozen BK155.out 2
            have hfz51_3 := blk_frozen BK155.out 3
            go_wp2
            repeat (go_quiet (fail); try go_wp2)
            go_ret
            exact ⟨by first | rfl | (simp [errW_none, errW_some] <;> rfl) | (simp [*, errW_none, errW_some] <;> rfl), by repeat (first | (with_reducible first | exact HB.out | apply below_alloc | apply pw_below_drewN | apply below_drew1 | refine below_set ?_ GE153.out | refine below_set ?_ GE155.out) | exact HB.out)⟩
  ·rw [if_neg c4] at H
   exact absurd H (by simp)
 ·rw [if_neg c3] at H
  exact absurd H (by simp)

end Go.Proofs.Ytnlnglfjehohpaa.Q
