-- Cut to what one claim reaches, out of what the kit's print laid for this seat (wip/tools/trim.py).
import Derived.Test.YtjbdlgjhnldfbaaQ0
import Derived.Test.YtjbdlgjhnldfbaaQ11
import Derived.Test.YtjbdlgjhnldfbaaQ19
import Derived.Test.YtjbdlgjhnldfbaaQ20
import Derived.Test.YtjbdlgjhnldfbaaQ21
namespace Go.Proofs.Ytjbdlgjhnldfbaa.Q
open Go.RowKit Go.Proofs.YtjbdlgjhnldfbaaW.PrintWords Go.Proofs.YtjbdlgjhnldfbaaW.PrintLast Go.Proofs.YtjbdlgjhnldfbaaW.PrintMore
attribute [local go_sem] max2_int min2_int max_two min_two max_three min_three max_four min_four   -- for this text's walks alone
set_option linter.unusedVariables false
set_option linter.unusedSimpArgs false

def heronryref21_Pick.l0 : Nat → List Int → Int → Int → List (S43) → Int → List (S43) → Int → Option ((List (S43)) × Int × Int × Int)
 | 0, _, _, _, _, _, _, _ => none
 | k + 1, x1, x7, x9, x411000, x411001, x418000, x418001 => if x9 < (x418000.length : Int) then (if 0 ≤ x9 then ((heronryref21_among.f k ((rd_T43 x418000 x9).f0) x1).bind fun t419 => (if t419 = true then (heronryref21_Pick.l0 k x1 x7 (wrap64 (x9 + 1)) x411000 x411001 (x418000.set (x9 : Int).toNat (⟨(rd_T43 x418000 x9).f0, (rd_T43 x418000 x9).f1, wrap64 (((rd_T43 x418000 x9).f2) + 1)⟩ : S43)) x418001) else (heronryref21_Pick.l0 k x1 x7 (wrap64 (x9 + 1)) x411000 x411001 x418000 x418001))) else (none)) else (if 0 ≤ x7 then (if x7 < (x411000.length : Int) then (some (x418000, x418001, (rd_T43 x411000 x7).f0, 0)) else (none)) else (none))
def heronryref21_Pick.f (k : Nat) (l0_0 : List (S43)) (a0_1 : Int) (l1 : List Int) : Option ((List (S43)) × Int × Int × Int) := (heronryref21_Sane.f k l0_0 a0_1).bind fun t412 => (if t412 = true then ((heronryref21_first.f k l0_0 a0_1 l1).bind fun t413 => (if t413 < 0 then (some (([] : List (S43)), 0, 0, 6)) else ((heronryref21_without.f l0_0 t413).bind fun t414 => (heronryref21_Pick.l0 k l1 t413 0 l0_0 a0_1 t414 a0_1)))) else (some (([] : List (S43)), 0, 0, 1)))
def heronryref21_Pick.T6 : Bool × List (List Nat × List Nat) := (true, [([], []), ([0], [0]), ([], []), ([1, 2], [1, 2]), ([], []), ([4], [4]), ([3, 5], [3, 5]), ([], []), ([7, 6, 3, 0, 1, 2, 3, 4, 5, 6, 7], [6, 7])])
def heronryref21_Pick.B6 : List Nat := [0, 1, 0, 7, 0, 16, 63, 0, 255]
theorem heronryref21_Pick.tab6 : rtab .any (opsOf Try.f21 6) = heronryref21_Pick.T6 := by kernel_rfl
theorem heronryref21_Pick.bits6 : waitsOk heronryref21_Pick.T6.2 heronryref21_Pick.B6 = true := by kernel_rfl
def heronryref21_Pick.T12 : Bool × List (List Nat × List Nat) := (true, [([], []), ([], []), ([1], [1]), ([], []), ([2, 3], [2, 3]), ([4], [4]), ([5], [5]), ([0, 0], [0]), ([6, 7, 0, 1, 2, 3, 4, 5, 6, 7], [6]), ([8, 0, 1, 2, 3, 4, 5, 6, 7, 8], [])])
def heronryref21_Pick.B12 : List Nat := [0, 0, 2, 0, 14, 30, 62, 1, 255, 511]
theorem heronryref21_Pick.tab12 : rtab .any (opsOf Try.f21 12) = heronryref21_Pick.T12 := by kernel_rfl
theorem heronryref21_Pick.bits12 : waitsOk heronryref21_Pick.T12.2 heronryref21_Pick.B12 = true := by kernel_rfl
set_option maxHeartbeats 8000000 in
set_option maxRecDepth 100000 in
theorem heronryref21_Pick.calls (k : Nat) (A0_0 : Option Addr) (c0_0 : Nat) (l0_0 : List (S43)) (a0_1 : Int) (A1 : Option Addr) (c1 : Nat) (l1 : List Int) (r1 : List (S43)) (r2 : Int) (r3 : Int) (r4 : Int) (w : World) (hr0_0 : Kd.C k43 w A0_0 l0_0.length l0_0) (hc0_0 : l0_0.length ≤ c0_0) (hr1 : Kd.C (Kd.int .i64) w A1 l1.length l1) (hc1 : l1.length ≤ c1) (h : heronryref21_Pick.f k l0_0 a0_1 l1 = some (r1, r2, r3, r4)) :
  Calls Try.prog 21 #[.agg #[.slice A0_0 l0_0.length c0_0, .int .i64 a0_1], .slice A1 l1.length c1] w fun e w' => ∃ v0_ : Value, e = .returned (.tuple #[.agg #[v0_, .int .i64 r2], .int .i64 r3, .int .i64 r4]) ∧ Kd.R k43 43 w' w.heap.size (fun _ => True) v0_ r1 ∧ Below w.heap.size w w' := by
 have hu39 := Try.underlying39
 have HR0_0 := Aside0.mk hr0_0
 have HC0_0 := Aside0.mk hc0_0
 clear hr0_0 hc0_0
 have HR1 := Aside0.mk hr1
 have HC1 := Aside0.mk hc1
 clear hr1 hc1
 have HB := Aside0.mk (Below.refl w.heap.size w)
 have H : ((heronryref21_Sane.f k l0_0 a0_1).bind fun t412 => (if t412 = true then ((heronryref21_first.f k l0_0 a0_1 l1).bind fun t413 => (if t413 < 0 then (some (([] : List (S43)), 0, 0, 6)) else ((heronryref21_without.f l0_0 t413).bind fun t414 => (heronryref21_Pick.l0 k l1 t413 0 l0_0 a0_1 t414 a0_1)))) else (some (([] : List (S43)), 0, 0, 1)))) = some (r1, r2, r3, r4) := h
 clear h
 replace H := Option.bind_eq_some_iff.mp H
 obtain ⟨t412, A30, H⟩ := H
 replace H : (if t412 = true then ((heronryref21_first.f k l0_0 a0_1 l1).bind fun t413 => (if t413 < 0 then (some (([] : List (S43)), 0, 0, 6)) else ((heronryref21_without.f l0_0 t413).bind fun t414 => (heronryref21_Pick.l0 k l1 t413 0 l0_0 a0_1 t414 a0_1)))) else (some (([] : List (S43)), 0, 0, 1))) = some (r1, r2, r3, r4) := H
 have A3 := Aside0.mk A30
 clear A30
 by_cases c4 : t412 = true
 ·subst c4
  have H1 : ((heronryref21_first.f k l0_0 a0_1 l1).bind fun t413 => (if t413 < 0 then (some (([] : List (S43)), 0, 0, 6)) else ((heronryref21_without.f l0_0 t413).bind fun t414 => (heronryref21_Pick.l0 k l1 t413 0 l0_0 a0_1 t414 a0_1)))) = some (r1, r2, r3, r4) := by rw [if_pos rfl] at H; exact H
  clear H
  have H := H1
  clear H1
  replace H := Option.bind_eq_some_iff.mp H
  obtain ⟨t413, A50, H⟩ := H
  replace H : (if t413 < 0 then (some (([] : List (S43)), 0, 0, 6)) else ((heronryref21_without.f l0_0 t413).bind fun t414 => (heronryref21_Pick.l0 k l1 t413 0 l0_0 a0_1 t414 a0_1))) = some (r1, r2, r3, r4) := H
  have A5 := Aside0.mk A50
  clear A50
  by_cases c6 : t413 < 0
  ·rw [if_pos c6] at H
   have c6b0 : decide (t413 < 0) = true := decide_eq_true c6
   clear c6
   simp only [Option.some.injEq, Prod.mk.injEq] at H
   obtain ⟨rfl, rfl, rfl, rfl⟩ := H
   go_enter Try.func21, Try.ntmps21
   go_wp2_with (first | ((with_reducible refine gate_dst (N := 2) rfl ?_); refine box_event ?hg (N := 2) ?hd (cs := #[.slice A0_0 l0_0.length c0_0, .int .i64 a0_1]) (t := 39) ?hr ?_; (case hd => rfl); (case hg => rfl); (case hr => first | (go_simp; done) | (go_simp; rfl)); intro gb410 hg w7 hbox hb; have n0_ := Aside0.mk (below_step (by repeat (first | (with_reducible first | exact HB.out | apply below_alloc | apply pw_below_drewN | apply below_drew1) | exact HB.out)) hb); have n1_ := Aside0.mk (hbox); have n2_ := Aside0.mk ((by rw [hg]; exact (below_size (by repeat (first | (with_reducible first | exact HB.out | apply below_alloc | apply pw_below_drewN | apply below_drew1) | exact HB.out))) : w.heap.size ≤ gb410)); have n3_ := Aside0.mk ((by rw [hg]; exact (below_size (by repeat (first | (with_reducible first | exact HB.out | apply below_alloc | apply pw_below_drewN | apply below_drew1) | exact HB.out))) : w.heap.size ≤ gb410)); clear HB; have HB := n0_; have BK410 := n1_; have GW410 := n2_; have GE410 := n3_; clear n0_ n1_ n2_ n3_; clear hb hbox hg) | ((with_reducible refine gate_dst (N := 4) rfl ?_); refine box_event ?hg (N := 4) ?hd (cs := #[.slice none 0 0, .int .i64 0]) (t := 39) ?hr ?_; (case hd => rfl); (case hg => rfl); (case hr => first | (go_simp; done) | (go_simp; rfl)); intro gb411 hg w8 hbox hb; have n0_ := Aside0.mk (blk_below (g := gb410) (o := .cells #[.slice A0_0 l0_0.length c0_0, .int .i64 a0_1] 39 (0, 0)) (by (with_reducible repeat (first | refine blk_drewN ?_ _ | refine blk_drew ?_ | refine blk_alloc ?_ _)); exact BK410.out) hb); have n1_ := Aside0.mk (below_step (by repeat (first | (with_reducible first | exact HB.out | apply below_alloc | apply pw_below_drewN | apply below_drew1 | refine below_set ?_ GE410.out) | exact HB.out)) hb); have n2_ := Aside0.mk (hbox); have n3_ := Aside0.mk ((by rw [hg]; exact (below_size (by repeat (first | (with_reducible first | exact HB.out | apply below_alloc | apply pw_below_drewN | apply below_drew1 | refine below_set ?_ GE410.out) | exact HB.out))) : w.heap.size ≤ gb411)); have n4_ := Aside0.mk ((by rw [hg]; exact (below_size (by repeat (first | (with_reducible first | exact HB.out | apply below_alloc | apply pw_below_drewN | apply below_drew1 | refine below_set ?_ GE410.out) | exact HB.out))) : w.heap.size ≤ gb411)); have n5_ := Aside0.mk ((by rw [hg]; exact Nat.ne_of_lt (blk_lt (g := gb410) (o := .cells #[.slice A0_0 l0_0.length c0_0, .int .i64 a0_1] 39 (0, 0)) (by (with_reducible repeat (first | refine blk_drewN ?_ _ | refine blk_drew ?_ | refine blk_alloc ?_ _)); exact BK410.out)) : gb410 ≠ gb411)); have n6_ := Aside0.mk ((by rw [hg]; exact Nat.ne_of_gt (blk_lt (g := gb410) (o := .cells #[.slice A0_0 l0_0.length c0_0, .int .i64 a0_1] 39 (0, 0)) (by (with_reducible repeat (first | refine blk_drewN ?_ _ | refine blk_drew ?_ | refine blk_alloc ?_ _)); exact BK410.out)) : gb411 ≠ gb410)); clear BK410; clear HB; have BK410 := n0_; have HB := n1_; have BK411 := n2_; have GW411 := n3_; have GE411 := n4_; have NB410_411 := n5_; have NB411_410 := n6_; clear n0_ n1_ n2_ n3_ n4_ n5_ n6_; clear hb hbox hg; have hnb9 := NB410_411.out; have hnc9 := NB411_410.out; have hcz10_0 : w8.cell? ⟨gb410, 0, none⟩ = some (.slice A0_0 l0_0.length c0_0) := (blk_cell BK410.out 0).trans rfl; have hcz10_1 : w8.cell? ⟨gb410, 1, none⟩ = some (.int .i64 a0_1) := (blk_cell BK410.out 1).trans rfl; have hfz10_0 := blk_frozen BK410.out 0; have hfz10_1 := blk_frozen BK410.out 1) | ((with_reducible refine gate_callee (f := 13) rfl ?_); refine goesL_ (some 11) rfl rfl Try.func13 (by kernel_rfl) rfl #[.agg #[.slice A0_0 l0_0.length c0_0, .int .i64 a0_1]] rfl (by (try simp only [List.map_toArray, List.map_cons, List.map_nil]); first | done | rfl | (simp only [List.length_drop, List.length_take]; rfl)) ?_; (with_reducible refine (heronryref21_Sane.calls k _ _ l0_0 a0_1 true _ ?side1 ?side2 A3.out).mono ?_); (case side1 => repeat (first | exact (Kd.C_below HR0_0.out HB.out) | (with_reducible refine Kd.C_alloc ?_ _) | (with_reducible refine Kd.C_drewN ?_ _) | (with_reducible refine Kd.C_drew ?_))); (case side2 => exact HC0_0.out); rintro e w11 ⟨rfl, hb⟩; refine ⟨_, rfl, ?_⟩; have n0_ := Aside0.mk (blk_below (g := gb410) (o := .cells #[.slice A0_0 l0_0.length c0_0, .int .i64 a0_1] 39 (0, 0)) (by (with_reducible repeat (first | refine blk_drewN ?_ _ | refine blk_drew ?_ | refine blk_alloc ?_ _)); exact BK410.out) hb); have n1_ := Aside0.mk (blk_below (g := gb411) (o := .cells #[.slice none 0 0, .int .i64 0] 39 (0, 0)) (by (with_reducible repeat (first | refine blk_drewN ?_ _ | refine blk_drew ?_ | refine blk_alloc ?_ _)); exact BK411.out) hb); have n2_ := Aside0.mk (below_step (by repeat (first | (with_reducible first | exact HB.out | apply below_alloc | apply pw_below_drewN | apply below_drew1 | refine below_set ?_ GE410.out | refine below_set ?_ GE411.out) | exact HB.out)) hb); clear BK410; clear BK411; clear HB; have BK410 := n0_; have BK411 := n1_; have HB := n2_; clear n0_ n1_ n2_; (try clear hb); (try clear hb2); (try clear hk); (try clear hi); have hcz12_0 : w11.cell? ⟨gb410, 0, none⟩ = some (.slice A0_0 l0_0.length c0_0) := (blk_cell BK410.out 0).trans rfl; have hcz12_1 : w11.cell? ⟨gb410, 1, none⟩ = some (.int .i64 a0_1) := (blk_cell BK410.out 1).trans rfl; have hfz12_0 := blk_frozen BK410.out 0; have hfz12_1 := blk_frozen BK410.out 1) | ((with_reducible refine gate_callee (f := 43) rfl ?_); refine goesL_ (some 16) rfl rfl Try.func43 (by kernel_rfl) rfl #[.agg #[.slice A0_0 l0_0.length c0_0, .int .i64 a0_1], .slice A1 l1.length c1] rfl (by (try simp only [List.map_toArray, List.map_cons, List.map_nil]); first | done | rfl | (simp only [List.length_drop, List.length_take]; rfl)) ?_; (with_reducible refine (heronryref21_first.calls k _ _ l0_0 a0_1 _ _ l1 t413 _ ?side1 ?side2 ?side3 ?side4 A5.out).mono ?_); (case side1 => repeat (first | exact (Kd.C_below HR0_0.out HB.out) | (with_reducible refine Kd.C_alloc ?_ _) | (with_reducible refine Kd.C_drewN ?_ _) | (with_reducible refine Kd.C_drew ?_))); (case side2 => exact HC0_0.out); (case side3 => repeat (first | exact (Kd.C_below HR1.out HB.out) | (with_reducible refine Kd.C_alloc ?_ _) | (with_reducible refine Kd.C_drewN ?_ _) | (with_reducible refine Kd.C_drew ?_))); (case side4 => exact HC1.out); rintro e w13 ⟨rfl, hb⟩; refine ⟨_, rfl, ?_⟩; have n0_ := Aside0.mk (blk_below (g := gb410) (o := .cells #[.slice A0_0 l0_0.length c0_0, .int .i64 a0_1] 39 (0, 0)) (by (with_reducible repeat (first | refine blk_drewN ?_ _ | refine blk_drew ?_ | refine blk_alloc ?_ _)); exact BK410.out) hb); have n1_ := Aside0.mk (blk_below (g := gb411) (o := .cells #[.slice none 0 0, .int .i64 0] 39 (0, 0)) (by (with_reducible repeat (first | refine blk_drewN ?_ _ | refine blk_drew ?_ | refine blk_alloc ?_ _)); exact BK411.out) hb); have n2_ := Aside0.mk (below_step (by repeat (first | (with_reducible first | exact HB.out | apply below_alloc | apply pw_below_drewN | apply below_drew1 | refine below_set ?_ GE410.out | refine below_set ?_ GE411.out) | exact HB.out)) hb); clear BK410; clear BK411; clear HB; have BK410 := n0_; have BK411 := n1_; have HB := n2_; clear n0_ n1_ n2_; (try clear hb); (try clear hb2); (try clear hk); (try clear hi); have hcz14_0 : w13.cell? ⟨gb411, 0, none⟩ = some (.slice none 0 0) := (blk_cell BK411.out 0).trans rfl; have hcz14_1 : w13.cell? ⟨gb411, 1, none⟩ = some (.int .i64 0) := (blk_cell BK411.out 1).trans rfl; have hfz14_0 := blk_frozen BK411.out 0; have hfz14_1 := blk_frozen BK411.out 1))
   refine bodyPost_ret (results_ctt rfl _ _ gb411 39 #[.slice none 0 0, .int .i64 0] (0, 0) _ rfl (by (with_reducible repeat (first | refine blk_drewN ?_ _ | refine blk_drew ?_ | refine blk_alloc ?_ _)); refine blk_put (cs := #[.slice none 0 0, .int .i64 0]) ?_ 1 _ rfl; (with_reducible repeat (first | refine blk_drewN ?_ _ | refine blk_drew ?_ | refine blk_alloc ?_ _)); refine blk_put (cs := #[.slice none 0 0, .int .i64 0]) ?_ 0 _ rfl; (with_reducible repeat (first | refine blk_drewN ?_ _ | refine blk_drew ?_ | refine blk_alloc ?_ _)); exact BK411.out) Try.underlying39 rfl (by kernel_rfl)) rfl ?_
   exact ⟨_, by first | rfl | (simp [errW_none, errW_some] <;> rfl) | (simp [*, errW_none, errW_some] <;> rfl), by first | exact Kd.R_nil _ _ _ _ _ | exact Kd.N_nil _ _ _ _ _ | exact Kd.V_nil _ _ _ _ _ | exact Kd.Q_nil _ _ _ _ _ | exact Kd.S_nil _ _ _ _ _, by repeat (first | (with_reducible first | exact HB.out | apply below_alloc | apply pw_below_drewN | apply below_drew1 | refine below_set ?_ GE410.out | refine below_set ?_ GE411.out) | exact HB.out)⟩
  ·rw [if_neg c6] at H
   have c6b0 : decide (t413 < 0) = false := decide_eq_false c6
   clear c6
   replace H := Option.bind_eq_some_iff.mp H
   obtain ⟨t414, A150, H⟩ := H
   replace H : (heronryref21_Pick.l0 k l1 t413 0 l0_0 a0_1 t414 a0_1) = some (r1, r2, r3, r4) := H
   have A15 := Aside0.mk A150
   clear A150
   have H' := Aside0.mk H
   clear H
   go_enter Try.func21, Try.ntmps21
   try go_wp2_with (first | ((with_reducible refine gate_dst (N := 2) rfl ?_); refine box_event ?hg (N := 2) ?hd (cs := #[.slice A0_0 l0_0.length c0_0, .int .i64 a0_1]) (t := 39) ?hr ?_; (case hd => rfl); (case hg => rfl); (case hr => first | (go_simp; done) | (go_simp; rfl)); intro gb410 hg w16 hbox hb; have n0_ := Aside0.mk (below_step (by repeat (first | (with_reducible first | exact HB.out | apply below_alloc | apply pw_below_drewN | apply below_drew1) | exact HB.out)) hb); have n1_ := Aside0.mk (hbox); have n2_ := Aside0.mk ((by rw [hg]; exact (below_size (by repeat (first | (with_reducible first | exact HB.out | apply below_alloc | apply pw_below_drewN | apply below_drew1) | exact HB.out))) : w.heap.size ≤ gb410)); have n3_ := Aside0.mk ((by rw [hg]; exact (below_size (by repeat (first | (with_reducible first | exact HB.out | apply below_alloc | apply pw_below_drewN | apply below_drew1) | exact HB.out))) : w.heap.size ≤ gb410)); clear HB; have HB := n0_; have BK410 := n1_; have GW410 := n2_; have GE410 := n3_; clear n0_ n1_ n2_ n3_; clear hb hbox hg) | ((with_reducible refine gate_dst (N := 4) rfl ?_); refine box_event ?hg (N := 4) ?hd (cs := #[.slice none 0 0, .int .i64 0]) (t := 39) ?hr ?_; (case hd => rfl); (case hg => rfl); (case hr => first | (go_simp; done) | (go_simp; rfl)); intro gb411 hg w17 hbox hb; have n0_ := Aside0.mk (blk_below (g := gb410) (o := .cells #[.slice A0_0 l0_0.length c0_0, .int .i64 a0_1] 39 (0, 0)) (by (with_reducible repeat (first | refine blk_drewN ?_ _ | refine blk_drew ?_ | refine blk_alloc ?_ _)); exact BK410.out) hb); have n1_ := Aside0.mk (below_step (by repeat (first | (with_reducible first | exact HB.out | apply below_alloc | apply pw_below_drewN | apply below_drew1 | refine below_set ?_ GE410.out) | exact HB.out)) hb); have n2_ := Aside0.mk (hbox); have n3_ := Aside0.mk ((by rw [hg]; exact (below_size (by repeat (first | (with_reducible first | exact HB.out | apply below_alloc | apply pw_below_drewN | apply below_drew1 | refine below_set ?_ GE410.out) | exact HB.out))) : w.heap.size ≤ gb411)); have n4_ := Aside0.mk ((by rw [hg]; exact (below_size (by repeat (first | (with_reducible first | exact HB.out | apply below_alloc | apply pw_below_drewN | apply below_drew1 | refine below_set ?_ GE410.out) | exact HB.out))) : w.heap.size ≤ gb411)); have n5_ := Aside0.mk ((by rw [hg]; exact Nat.ne_of_lt (blk_lt (g := gb410) (o := .cells #[.slice A0_0 l0_0.length c0_0, .int .i64 a0_1] 39 (0, 0)) (by (with_reducible repeat (first | refine blk_drewN ?_ _ | refine blk_drew ?_ | refine blk_alloc ?_ _)); exact BK410.out)) : gb410 ≠ gb411)); have n6_ := Aside0.mk ((by rw [hg]; exact Nat.ne_of_gt (blk_lt (g := gb410) (o := .cells #[.slice A0_0 l0_0.length c0_0, .int .i64 a0_1] 39 (0, 0)) (by (with_reducible repeat (first | refine blk_drewN ?_ _ | refine blk_drew ?_ | refine blk_alloc ?_ _)); exact BK410.out)) : gb411 ≠ gb410)); clear BK410; clear HB; have BK410 := n0_; have HB := n1_; have BK411 := n2_; have GW411 := n3_; have GE411 := n4_; have NB410_411 := n5_; have NB411_410 := n6_; clear n0_ n1_ n2_ n3_ n4_ n5_ n6_; clear hb hbox hg; have hnb18 := NB410_411.out; have hnc18 := NB411_410.out; have hcz19_0 : w17.cell? ⟨gb410, 0, none⟩ = some (.slice A0_0 l0_0.length c0_0) := (blk_cell BK410.out 0).trans rfl; have hcz19_1 : w17.cell? ⟨gb410, 1, none⟩ = some (.int .i64 a0_1) := (blk_cell BK410.out 1).trans rfl; have hfz19_0 := blk_frozen BK410.out 0; have hfz19_1 := blk_frozen BK410.out 1) | ((with_reducible refine gate_callee (f := 13) rfl ?_); refine goesL_ (some 11) rfl rfl Try.func13 (by kernel_rfl) rfl #[.agg #[.slice A0_0 l0_0.length c0_0, .int .i64 a0_1]] rfl (by (try simp only [List.map_toArray, List.map_cons, List.map_nil]); first | done | rfl | (simp only [List.length_drop, List.length_take]; rfl)) ?_; (with_reducible refine (heronryref21_Sane.calls k _ _ l0_0 a0_1 true _ ?side1 ?side2 A3.out).mono ?_); (case side1 => repeat (first | exact (Kd.C_below HR0_0.out HB.out) | (with_reducible refine Kd.C_alloc ?_ _) | (with_reducible refine Kd.C_drewN ?_ _) | (with_reducible refine Kd.C_drew ?_))); (case side2 => exact HC0_0.out); rintro e w20 ⟨rfl, hb⟩; refine ⟨_, rfl, ?_⟩; have n0_ := Aside0.mk (blk_below (g := gb410) (o := .cells #[.slice A0_0 l0_0.length c0_0, .int .i64 a0_1] 39 (0, 0)) (by (with_reducible repeat (first | refine blk_drewN ?_ _ | refine blk_drew ?_ | refine blk_alloc ?_ _)); exact BK410.out) hb); have n1_ := Aside0.mk (blk_below (g := gb411) (o := .cells #[.slice none 0 0, .int .i64 0] 39 (0, 0)) (by (with_reducible repeat (first | refine blk_drewN ?_ _ | refine blk_drew ?_ | refine blk_alloc ?_ _)); exact BK411.out) hb); have n2_ := Aside0.mk (below_step (by repeat (first | (with_reducible first | exact HB.out | apply below_alloc | apply pw_below_drewN | apply below_drew1 | refine below_set ?_ GE410.out | refine below_set ?_ GE411.out) | exact HB.out)) hb); clear BK410; clear BK411; clear HB; have BK410 := n0_; have BK411 := n1_; have HB := n2_; clear n0_ n1_ n2_; (try clear hb); (try clear hb2); (try clear hk); (try clear hi); have hcz21_0 : w20.cell? ⟨gb410, 0, none⟩ = some (.slice A0_0 l0_0.length c0_0) := (blk_cell BK410.out 0).trans rfl; have hcz21_1 : w20.cell? ⟨gb410, 1, none⟩ = some (.int .i64 a0_1) := (blk_cell BK410.out 1).trans rfl; have hfz21_0 := blk_frozen BK410.out 0; have hfz21_1 := blk_frozen BK410.out 1) | ((with_reducible refine gate_callee (f := 43) rfl ?_); refine goesL_ (some 16) rfl rfl Try.func43 (by kernel_rfl) rfl #[.agg #[.slice A0_0 l0_0.length c0_0, .int .i64 a0_1], .slice A1 l1.length c1] rfl (by (try simp only [List.map_toArray, List.map_cons, List.map_nil]); first | done | rfl | (simp only [List.length_drop, List.length_take]; rfl)) ?_; (with_reducible refine (heronryref21_first.calls k _ _ l0_0 a0_1 _ _ l1 t413 _ ?side1 ?side2 ?side3 ?side4 A5.out).mono ?_); (case side1 => repeat (first | exact (Kd.C_below HR0_0.out HB.out) | (with_reducible refine Kd.C_alloc ?_ _) | (with_reducible refine Kd.C_drewN ?_ _) | (with_reducible refine Kd.C_drew ?_))); (case side2 => exact HC0_0.out); (case side3 => repeat (first | exact (Kd.C_below HR1.out HB.out) | (with_reducible refine Kd.C_alloc ?_ _) | (with_reducible refine Kd.C_drewN ?_ _) | (with_reducible refine Kd.C_drew ?_))); (case side4 => exact HC1.out); rintro e w22 ⟨rfl, hb⟩; refine ⟨_, rfl, ?_⟩; have n0_ := Aside0.mk (blk_below (g := gb410) (o := .cells #[.slice A0_0 l0_0.length c0_0, .int .i64 a0_1] 39 (0, 0)) (by (with_reducible repeat (first | refine blk_drewN ?_ _ | refine blk_drew ?_ | refine blk_alloc ?_ _)); exact BK410.out) hb); have n1_ := Aside0.mk (blk_below (g := gb411) (o := .cells #[.slice none 0 0, .int .i64 0] 39 (0, 0)) (by (with_reducible repeat (first | refine blk_drewN ?_ _ | refine blk_drew ?_ | refine blk_alloc ?_ _)); exact BK411.out) hb); have n2_ := Aside0.mk (below_step (by repeat (first | (with_reducible first | exact HB.out | apply below_alloc | apply pw_below_drewN | apply below_drew1 | refine below_set ?_ GE410.out | refine below_set ?_ GE411.out) | exact HB.out)) hb); clear BK410; clear BK411; clear HB; have BK410 := n0_; have BK411 := n1_; have HB := n2_; clear n0_ n1_ n2_; (try clear hb); (try clear hb2); (try clear hk); (try clear hi)))
   have n0_ := Aside0.mk (blk_drew BK410.out)
   have n1_ := Aside0.mk (blk_drew BK411.out)
   have n2_ := Aside0.mk (below_drew1 HB.out)
   clear BK410
   clear BK411
   clear HB
   have BK410 := n0_
   have BK411 := n1_
   have HB := n2_
   clear n0_ n1_ n2_
   refine start_ (n := 9) (S := fun w' => w'.cell? ⟨gb410, 0, none⟩ = some (.slice A0_0 l0_0.length c0_0) ∧ w'.cell? ⟨gb410, 1, none⟩ = some (.int .i64 a0_1)) (ds := []) #[false, false, false, false, false, false, false, false, false] (by kernel_rfl) rfl rfl ⟨(blk_cell BK410.out 0).trans rfl, (blk_cell BK410.out 1).trans rfl⟩ (fun hHeld => ?_); refine with_tabW heronryref21_Pick.tab6 heronryref21_Pick.bits6 (fun HT_ HW_ => ?_)
   generalize w22.drew = w23 at BK410 BK411 HB hHeld ⊢
   refine pure_ (i := 0) (N := some 20) (v := ?_) (a' := ?_) #[true, false, false, false, false, false, false, false, false] rfl rfl (any_of HT_.out (by kernel_rfl)) (fun _ _ _ h => h) (Or.inl ⟨by rfl, ?_⟩) ?_ ?_
   rotate_left
   ·intro w'
    go_simp
    with_reducible rfl
   rotate_left
   ·simp only [Act.put, List.setIfInBounds_toArray, List.set_cons_zero, List.set_cons_succ, i64_w, i32_w]
    rfl
   refine pure_ (i := 2) (N := some 22) (v := ?_) (a' := ?_) #[true, false, true, false, false, false, false, false, false] rfl rfl (any_of HT_.out (by kernel_rfl)) (fun _ _ _ h => h) (Or.inl ⟨by rfl, ?_⟩) ?_ ?_
   rotate_left
   ·intro w'
    go_simp
    with_reducible rfl
   rotate_left
   ·simp only [Act.put, List.setIfInBounds_toArray, List.set_cons_zero, List.set_cons_succ, i64_w, i32_w]
    rfl
   refine pure_ (i := 4) (N := some 24) (v := ?_) (a' := ?_) #[true, false, true, false, true, false, false, false, false] rfl rfl (any_of HT_.out (by kernel_rfl)) (fun _ _ _ h => h) (Or.inl ⟨by rfl, ?_⟩) ?_ ?_
   rotate_left
   ·intro w'
    go_simp
    with_reducible rfl
   rotate_left
   ·simp only [Act.put, List.setIfInBounds_toArray, List.set_cons_zero, List.set_cons_succ, i64_w, i32_w]
    rfl
   refine take_ (i := 1) (N := some 21) (v := ?_) (a' := ?_) #[true, true, true, false, true, false, false, false, false] rfl rfl (take_ofW HT_.out HW_.out (by kernel_rfl)) (fun _ _ _ h => h) (Or.inl ⟨by rfl, ?_⟩) hHeld ?_ ?_
   rotate_left
   ·rintro w' ⟨s0, s1⟩
    go_simp
    with_reducible rfl
   rotate_left
   ·simp only [Act.put, List.setIfInBounds_toArray, List.set_cons_zero, List.set_cons_succ, i64_w, i32_w]
    rfl
   refine take_ (i := 5) (N := some 25) (v := ?_) (a' := ?_) #[true, true, true, false, true, true, false, false, false] rfl rfl (take_ofW HT_.out HW_.out (by kernel_rfl)) (fun _ _ _ h => h) (Or.inl ⟨by rfl, ?_⟩) hHeld ?_ ?_
   rotate_left
   ·rintro w' ⟨s0, s1⟩
    go_simp
    with_reducible rfl
   rotate_left
   ·simp only [Act.put, List.setIfInBounds_toArray, List.set_cons_zero, List.set_cons_succ, i64_w, i32_w]
    rfl
   refine join_ (σ := Value × Nat) 1 #[true, true, true, true, true, true, true, true, false] (fun s_ => [(23, s_.1), (8, .pointer (some ⟨s_.2, 0, none⟩)), (26, .agg #[s_.1, .int .i64 a0_1])]) (fun s_ w' => (w'.cell? ⟨gb410, 0, none⟩ = some (.slice A0_0 l0_0.length c0_0) ∧ w'.cell? ⟨gb410, 1, none⟩ = some (.int .i64 a0_1)) ∧ (Kd.R k43 43 w' w.heap.size (fun _ => True) s_.1 t414) ∧ (w'.heap[gb410]? = some (.cells #[.slice A0_0 l0_0.length c0_0, .int .i64 a0_1] 39 (0, 0))) ∧ (w'.heap[gb411]? = some (.cells #[.slice none 0 0, .int .i64 0] 39 (0, 0))) ∧ (w'.heap[s_.2]? = some (.cells #[.slice none 0 0, .int .i64 0] 39 (0, 0))) ∧ (w.heap.size ≤ s_.2) ∧ (w.heap.size ≤ s_.2) ∧ (gb410 ≠ s_.2) ∧ (s_.2 ≠ gb410) ∧ (gb411 ≠ s_.2) ∧ (s_.2 ≠ gb411) ∧ (Below w.heap.size w w')) ?_ ?_
   rotate_left
   ·intro hCont
    refine two_ (i := 3) (j := 7) (Ni := some 23) (Nj := some 8) #[true, true, true, true, true, true, false, false, false] #[true, true, true, false, true, true, false, true, false] rfl rfl rfl rfl (two_of HT_.out (by kernel_rfl)) (by decide) (by decide) (fun K hK => ?_) (fun K hK => ?_)
    ·skip
     refine goes_ Try.func42 (by kernel_rfl) rfl #[.slice A0_0 l0_0.length c0_0, .int .i64 t413] (by rfl) rfl rfl (by (try simp only [List.map_toArray, List.map_cons, List.map_nil]); first | done | rfl | (simp only [List.length_drop, List.length_take]; rfl)) ?_
     with_reducible refine (heronryref21_without.calls _ _ l0_0 t413 t414 _ ?side1 ?side2 A15.out).mono ?_
     (case side1 => repeat (first | exact (Kd.C_below HR0_0.out HB.out) | (with_reducible refine Kd.C_alloc ?_ _) | (with_reducible refine Kd.C_drewN ?_ _) | (with_reducible refine Kd.C_drew ?_)))
     (case side2 => exact HC0_0.out)
     rintro e w24 ⟨v415, rfl, ho0, hb⟩
     refine ⟨_, rfl, ?_⟩
     have n0_ := Aside0.mk (Kd.R_lower ho0 (below_size (by repeat (first | (with_reducible first | exact HB.out | apply below_alloc | apply pw_below_drewN | apply below_drew1 | refine below_set ?_ GE410.out | refine below_set ?_ GE411.out) | exact HB.out))))
     have n1_ := Aside0.mk (blk_below (g := gb410) (o := .cells #[.slice A0_0 l0_0.length c0_0, .int .i64 a0_1] 39 (0, 0)) (by (with_reducible repeat (first | refine blk_drewN ?_ _ | refine blk_drew ?_ | refine blk_alloc ?_ _)); exact BK410.out) hb)
     have n2_ := Aside0.mk (blk_below (g := gb411) (o := .cells #[.slice none 0 0, .int .i64 0] 39 (0, 0)) (by (with_reducible repeat (first | refine blk_drewN ?_ _ | refine blk_drew ?_ | refine blk_alloc ?_ _)); exact BK411.out) hb)
     have n3_ := Aside0.mk (below_step (by repeat (first | (with_reducible first | exact HB.out | apply below_alloc | apply pw_below_drewN | apply below_drew1 | refine below_set ?_ GE410.out | refine below_set ?_ GE411.out) | exact HB.out)) hb)
     clear BK410
     clear BK411
     clear HB
     have HO416 := n0_
     have BK410 := n1_
     have BK411 := n2_
     have HB := n3_
     clear n0_ n1_ n2_ n3_
     (try clear hb)
     (try clear hb2)
     (try clear hk)
     (try clear hi)
     (try clear ho0)
     obtain ⟨Ao25, co25, eo25⟩ := Kd.R_slice HO416.out
     (first | subst eo25 | (injection eo25 with f1_ f2_ f3_; have f4_ := f1_.symm; have f5_ := f3_.symm; clear f1_ f2_ f3_; subst f4_; subst f5_))
     refine hK.out _ _ ⟨(blk_cell BK410.out 0).trans rfl, (blk_cell BK410.out 1).trans rfl⟩ (fun hHeld => ?_)
     clear hK K
     refine norm_ (a' := ?_) ?_ ?_
     rotate_left
     ·show Act.put _ (some 23) _ = _
      simp only [Act.put, List.setIfInBounds_toArray, List.set_cons_zero, List.set_cons_succ, i64_w, i32_w]
      rfl
     refine pure_ (i := 6) (N := some 26) (v := ?_) (a' := ?_) #[true, true, true, true, true, true, true, false, false] rfl rfl (any_of HT_.out (by kernel_rfl)) (fun _ _ _ h => h) (Or.inl ⟨by rfl, ?_⟩) ?_ ?_
     rotate_left
     ·intro w'
      go_simp
      with_reducible rfl
     rotate_left
     ·simp only [Act.put, List.setIfInBounds_toArray, List.set_cons_zero, List.set_cons_succ, i64_w, i32_w]
      rfl
     refine one_ (i := 7) (N := some 8) #[true, true, true, true, true, true, true, true, false] rfl rfl (one_of HT_.out (by kernel_rfl)) (by decide) (fun K hK => ?_)
     refine box_step ?hg (N := 8) ?hd (cs := #[.slice none 0 0, .int .i64 0]) (t := 39) ?hr ?_; (case hd => rfl); (case hg => rfl); (case hr => first | (go_simp; done) | (go_simp; rfl))
     intro gb417 hg w26 hbox hb
     have n0_ := Aside0.mk (Kd.R_below (by (with_reducible repeat (first | apply Kd.R_alloc | apply Kd.R_drewN | apply Kd.R_drew)); exact HO416.out) hb)
     have n1_ := Aside0.mk (blk_below (g := gb410) (o := .cells #[.slice A0_0 l0_0.length c0_0, .int .i64 a0_1] 39 (0, 0)) (by (with_reducible repeat (first | refine blk_drewN ?_ _ | refine blk_drew ?_ | refine blk_alloc ?_ _)); exact BK410.out) hb)
     have n2_ := Aside0.mk (blk_below (g := gb411) (o := .cells #[.slice none 0 0, .int .i64 0] 39 (0, 0)) (by (with_reducible repeat (first | refine blk_drewN ?_ _ | refine blk_drew ?_ | refine blk_alloc ?_ _)); exact BK411.out) hb)
     have n3_ := Aside0.mk (below_step (by repeat (first | (with_reducible first | exact HB.out | apply below_alloc | apply pw_below_drewN | apply below_drew1 | refine below_set ?_ GE410.out | refine below_set ?_ GE411.out) | exact HB.out)) hb)
     have n4_ := Aside0.mk (hbox)
     have n5_ := Aside0.mk ((by rw [hg]; exact (below_size (by repeat (first | (with_reducible first | exact HB.out | apply below_alloc | apply pw_below_drewN | apply below_drew1 | refine below_set ?_ GE410.out | refine below_set ?_ GE411.out) | exact HB.out))) : w.heap.size ≤ gb417))
     have n6_ := Aside0.mk ((by rw [hg]; exact (below_size (by repeat (first | (with_reducible first | exact HB.out | apply below_alloc | apply pw_below_drewN | apply below_drew1 | refine below_set ?_ GE410.out | refine below_set ?_ GE411.out) | exact HB.out))) : w.heap.size ≤ gb417))
     have n7_ := Aside0.mk ((by rw [hg]; exact Nat.ne_of_lt (blk_lt (g := gb410) (o := .cells #[.slice A0_0 l0_0.length c0_0, .int .i64 a0_1] 39 (0, 0)) (by (with_reducible repeat (first | refine blk_drewN ?_ _ | refine blk_drew ?_ | refine blk_alloc ?_ _)); exact BK410.out)) : gb410 ≠ gb417))
     have n8_ := Aside0.mk ((by rw [hg]; exact Nat.ne_of_gt (blk_lt (g := gb410) (o := .cells #[.slice A0_0 l0_0.length c0_0, .int .i64 a0_1] 39 (0, 0)) (by (with_reducible repeat (first | refine blk_drewN ?_ _ | refine blk_drew ?_ | refine blk_alloc ?_ _)); exact BK410.out)) : gb417 ≠ gb410))
     have n9_ := Aside0.mk ((by rw [hg]; exact Nat.ne_of_lt (blk_lt (g := gb411) (o := .cells #[.slice none 0 0, .int .i64 0] 39 (0, 0)) (by (with_reducible repeat (first | refine blk_drewN ?_ _ | refine blk_drew ?_ | refine blk_alloc ?_ _)); exact BK411.out)) : gb411 ≠ gb417))
     have n10_ := Aside0.mk ((by rw [hg]; exact Nat.ne_of_gt (blk_lt (g := gb411) (o := .cells #[.slice none 0 0, .int .i64 0] 39 (0, 0)) (by (with_reducible repeat (first | refine blk_drewN ?_ _ | refine blk_drew ?_ | refine blk_alloc ?_ _)); exact BK411.out)) : gb417 ≠ gb411))
     clear HO416
     clear BK410
     clear BK411
     clear HB
     have HO416 := n0_
     have BK410 := n1_
     have BK411 := n2_
     have HB := n3_
     have BK417 := n4_
     have GW417 := n5_
     have GE417 := n6_
     have NB410_417 := n7_
     have NB417_410 := n8_
     have NB411_417 := n9_
     have NB417_411 := n10_
     clear n0_ n1_ n2_ n3_ n4_ n5_ n6_ n7_ n8_ n9_ n10_
     clear hb hbox hg
     refine hK.out _ _ ⟨(blk_cell BK410.out 0).trans rfl, (blk_cell BK410.out 1).trans rfl⟩ (fun hHeld => ?_)
     clear hK K
     refine norm_ (a' := ?_) ?_ ?_
     rotate_left
     ·show Act.put _ (some 8) _ = _
      simp only [Act.put, List.setIfInBounds_toArray, List.set_cons_zero, List.set_cons_succ, i64_w, i32_w]
      rfl
     exact norm_ (by simp only [putAll, Act.put, List.setIfInBounds_toArray, List.set_cons_zero, List.set_cons_succ]) (hCont (.slice Ao25 t414.length co25, gb417) _ ⟨hHeld, (by (with_reducible repeat (first | apply Kd.R_alloc | apply Kd.R_drewN | apply Kd.R_drew)); exact HO416.out), (by (with_reducible repeat (first | refine blk_drewN ?_ _ | refine blk_drew ?_ | refine blk_alloc ?_ _)); exact BK410.out), (by (with_reducible repeat (first | refine blk_drewN ?_ _ | refine blk_drew ?_ | refine blk_alloc ?_ _)); exact BK411.out), (by (with_reducible repeat (first | refine blk_drewN ?_ _ | refine blk_drew ?_ | refine blk_alloc ?_ _)); exact BK417.out), GW417.out, GE417.out, NB410_417.out, NB417_410.out, NB411_417.out, NB417_411.out, (by repeat (first | (with_reducible first | exact HB.out | apply below_alloc | apply pw_below_drewN | apply below_drew1 | refine below_set ?_ GE410.out | refine below_set ?_ GE411.out | refine below_set ?_ GE417.out) | exact HB.out))⟩)
    ·skip
     refine box_step ?hg (N := 8) ?hd (cs := #[.slice none 0 0, .int .i64 0]) (t := 39) ?hr ?_; (case hd => rfl); (case hg => rfl); (case hr => first | (go_simp; done) | (go_simp; rfl))
     intro gb417 hg w24 hbox hb
     have n0_ := Aside0.mk (blk_below (g := gb410) (o := .cells #[.slice A0_0 l0_0.length c0_0, .int .i64 a0_1] 39 (0, 0)) (by (with_reducible repeat (first | refine blk_drewN ?_ _ | refine blk_drew ?_ | refine blk_alloc ?_ _)); exact BK410.out) hb)
     have n1_ := Aside0.mk (blk_below (g := gb411) (o := .cells #[.slice none 0 0, .int .i64 0] 39 (0, 0)) (by (with_reducible repeat (first | refine blk_drewN ?_ _ | refine blk_drew ?_ | refine blk_alloc ?_ _)); exact BK411.out) hb)
     have n2_ := Aside0.mk (below_step (by repeat (first | (with_reducible first | exact HB.out | apply below_alloc | apply pw_below_drewN | apply below_drew1 | refine below_set ?_ GE410.out | refine below_set ?_ GE411.out) | exact HB.out)) hb)
     have n3_ := Aside0.mk (hbox)
     have n4_ := Aside0.mk ((by rw [hg]; exact (below_size (by repeat (first | (with_reducible first | exact HB.out | apply below_alloc | apply pw_below_drewN | apply below_drew1 | refine below_set ?_ GE410.out | refine below_set ?_ GE411.out) | exact HB.out))) : w.heap.size ≤ gb417))
     have n5_ := Aside0.mk ((by rw [hg]; exact (below_size (by repeat (first | (with_reducible first | exact HB.out | apply below_alloc | apply pw_below_drewN | apply below_drew1 | refine below_set ?_ GE410.out | refine below_set ?_ GE411.out) | exact HB.out))) : w.heap.size ≤ gb417))
     have n6_ := Aside0.mk ((by rw [hg]; exact Nat.ne_of_lt (blk_lt (g := gb410) (o := .cells #[.slice A0_0 l0_0.length c0_0, .int .i64 a0_1] 39 (0, 0)) (by (with_reducible repeat (first | refine blk_drewN ?_ _ | refine blk_drew ?_ | refine blk_alloc ?_ _)); exact BK410.out)) : gb410 ≠ gb417))
     have n7_ := Aside0.mk ((by rw [hg]; exact Nat.ne_of_gt (blk_lt (g := gb410) (o := .cells #[.slice A0_0 l0_0.length c0_0, .int .i64 a0_1] 39 (0, 0)) (by (with_reducible repeat (first | refine blk_drewN ?_ _ | refine blk_drew ?_ | refine blk_alloc ?_ _)); exact BK410.out)) : gb417 ≠ gb410))
     have n8_ := Aside0.mk ((by rw [hg]; exact Nat.ne_of_lt (blk_lt (g := gb411) (o := .cells #[.slice none 0 0, .int .i64 0] 39 (0, 0)) (by (with_reducible repeat (first | refine blk_drewN ?_ _ | refine blk_drew ?_ | refine blk_alloc ?_ _)); exact BK411.out)) : gb411 ≠ gb417))
     have n9_ := Aside0.mk ((by rw [hg]; exact Nat.ne_of_gt (blk_lt (g := gb411) (o := .cells #[.slice none 0 0, .int .i64 0] 39 (0, 0)) (by (with_reducible repeat (first | refine blk_drewN ?_ _ | refine blk_drew ?_ | refine blk_alloc ?_ _)); exact BK411.out)) : gb417 ≠ gb411))
     clear BK410
     clear BK411
     clear HB
     have BK410 := n0_
     have BK411 := n1_
     have HB := n2_
     have BK417 := n3_
     have GW417 := n4_
     have GE417 := n5_
     have NB410_417 := n6_
     have NB417_410 := n7_
     have NB411_417 := n8_
     have NB417_411 := n9_
     clear n0_ n1_ n2_ n3_ n4_ n5_ n6_ n7_ n8_ n9_
     clear hb hbox hg
     refine hK.out _ _ ⟨(blk_cell BK410.out 0).trans rfl, (blk_cell BK410.out 1).trans rfl⟩ (fun hHeld => ?_)
     clear hK K
     refine norm_ (a' := ?_) ?_ ?_
     rotate_left
     ·show Act.put _ (some 8) _ = _
      simp only [Act.put, List.setIfInBounds_toArray, List.set_cons_zero, List.set_cons_succ, i64_w, i32_w]
      rfl
     refine one_ (i := 3) (N := some 23) #[true, true, true, true, true, true, false, true, false] rfl rfl (one_of HT_.out (by kernel_rfl)) (by decide) (fun K hK => ?_)
     refine goes_ Try.func42 (by kernel_rfl) rfl #[.slice A0_0 l0_0.length c0_0, .int .i64 t413] (by rfl) rfl rfl (by (try simp only [List.map_toArray, List.map_cons, List.map_nil]); first | done | rfl | (simp only [List.length_drop, List.length_take]; rfl)) ?_
     with_reducible refine (heronryref21_without.calls _ _ l0_0 t413 t414 _ ?side1 ?side2 A15.out).mono ?_
     (case side1 => repeat (first | exact (Kd.C_below HR0_0.out HB.out) | (with_reducible refine Kd.C_alloc ?_ _) | (with_reducible refine Kd.C_drewN ?_ _) | (with_reducible refine Kd.C_drew ?_)))
     (case side2 => exact HC0_0.out)
     rintro e w25 ⟨v415, rfl, ho0, hb⟩
     refine ⟨_, rfl, ?_⟩
     have n0_ := Aside0.mk (Kd.R_lower ho0 (below_size (by repeat (first | (with_reducible first | exact HB.out | apply below_alloc | apply pw_below_drewN | apply below_drew1 | refine below_set ?_ GE410.out | refine below_set ?_ GE411.out | refine below_set ?_ GE417.out) | exact HB.out))))
     have n1_ := Aside0.mk (blk_below (g := gb410) (o := .cells #[.slice A0_0 l0_0.length c0_0, .int .i64 a0_1] 39 (0, 0)) (by (with_reducible repeat (first | refine blk_drewN ?_ _ | refine blk_drew ?_ | refine blk_alloc ?_ _)); exact BK410.out) hb)
     have n2_ := Aside0.mk (blk_below (g := gb411) (o := .cells #[.slice none 0 0, .int .i64 0] 39 (0, 0)) (by (with_reducible repeat (first | refine blk_drewN ?_ _ | refine blk_drew ?_ | refine blk_alloc ?_ _)); exact BK411.out) hb)
     have n3_ := Aside0.mk (blk_below (g := gb417) (o := .cells #[.slice none 0 0, .int .i64 0] 39 (0, 0)) (by (with_reducible repeat (first | refine blk_drewN ?_ _ | refine blk_drew ?_ | refine blk_alloc ?_ _)); exact BK417.out) hb)
     have n4_ := Aside0.mk (below_step (by repeat (first | (with_reducible first | exact HB.out | apply below_alloc | apply pw_below_drewN | apply below_drew1 | refine below_set ?_ GE410.out | refine below_set ?_ GE411.out | refine below_set ?_ GE417.out) | exact HB.out)) hb)
     clear BK410
     clear BK411
     clear BK417
     clear HB
     have HO416 := n0_
     have BK410 := n1_
     have BK411 := n2_
     have BK417 := n3_
     have HB := n4_
     clear n0_ n1_ n2_ n3_ n4_
     (try clear hb)
     (try clear hb2)
     (try clear hk)
     (try clear hi)
     (try clear ho0)
     obtain ⟨Ao26, co26, eo26⟩ := Kd.R_slice HO416.out
     (first | subst eo26 | (injection eo26 with f1_ f2_ f3_; have f4_ := f1_.symm; have f5_ := f3_.symm; clear f1_ f2_ f3_; subst f4_; subst f5_))
     refine hK.out _ _ ⟨(blk_cell BK410.out 0).trans rfl, (blk_cell BK410.out 1).trans rfl⟩ (fun hHeld => ?_)
     clear hK K
     refine norm_ (a' := ?_) ?_ ?_
     rotate_left
     ·show Act.put _ (some 23) _ = _
      simp only [Act.put, List.setIfInBounds_toArray, List.set_cons_zero, List.set_cons_succ, i64_w, i32_w]
      rfl
     refine pure_ (i := 6) (N := some 26) (v := ?_) (a' := ?_) #[true, true, true, true, true, true, true, true, false] rfl rfl (any_of HT_.out (by kernel_rfl)) (fun _ _ _ h => h) (Or.inl ⟨by rfl, ?_⟩) ?_ ?_
     rotate_left
     ·intro w'
      go_simp
      with_reducible rfl
     rotate_left
     ·simp only [Act.put, List.setIfInBounds_toArray, List.set_cons_zero, List.set_cons_succ, i64_w, i32_w]
      rfl
     exact norm_ (by simp only [putAll, Act.put, List.setIfInBounds_toArray, List.set_cons_zero, List.set_cons_succ]) (hCont (.slice Ao26 t414.length co26, gb417) _ ⟨hHeld, (by (with_reducible repeat (first | apply Kd.R_alloc | apply Kd.R_drewN | apply Kd.R_drew)); exact HO416.out), (by (with_reducible repeat (first | refine blk_drewN ?_ _ | refine blk_drew ?_ | refine blk_alloc ?_ _)); exact BK410.out), (by (with_reducible repeat (first | refine blk_drewN ?_ _ | refine blk_drew ?_ | refine blk_alloc ?_ _)); exact BK411.out), (by (with_reducible repeat (first | refine blk_drewN ?_ _ | refine blk_drew ?_ | refine blk_alloc ?_ _)); exact BK417.out), GW417.out, GE417.out, NB410_417.out, NB417_410.out, NB411_417.out, NB417_411.out, (by repeat (first | (with_reducible first | exact HB.out | apply below_alloc | apply pw_below_drewN | apply below_drew1 | refine below_set ?_ GE410.out | refine below_set ?_ GE411.out | refine below_set ?_ GE417.out) | exact HB.out))⟩)
   rintro ⟨v415, gb417⟩ w27 ⟨hS_, h0_, h1_, h2_, h3_, h4_, h5_, h6_, h7_, h8_, h9_, h10_⟩
   have n0_ : Aside0 (Kd.R k43 43 w27 w.heap.size (fun _ => True) v415 t414) := ⟨h0_⟩
   have n1_ : Aside0 (w27.heap[gb410]? = some (.cells #[.slice A0_0 l0_0.length c0_0, .int .i64 a0_1] 39 (0, 0))) := ⟨h1_⟩
   have n2_ : Aside0 (w27.heap[gb411]? = some (.cells #[.slice none 0 0, .int .i64 0] 39 (0, 0))) := ⟨h2_⟩
   have n3_ : Aside0 (w27.heap[gb417]? = some (.cells #[.slice none 0 0, .int .i64 0] 39 (0, 0))) := ⟨h3_⟩
   have n4_ : Aside0 (w.heap.size ≤ gb417) := ⟨h4_⟩
   have n5_ : Aside0 (w.heap.size ≤ gb417) := ⟨h5_⟩
   have n6_ : Aside0 (gb410 ≠ gb417) := ⟨h6_⟩
   have n7_ : Aside0 (gb417 ≠ gb410) := ⟨h7_⟩
   have n8_ : Aside0 (gb411 ≠ gb417) := ⟨h8_⟩
   have n9_ : Aside0 (gb417 ≠ gb411) := ⟨h9_⟩
   have n10_ : Aside0 (Below w.heap.size w w27) := ⟨h10_⟩
   clear BK410
   clear BK411
   clear HB
   clear h0_ h1_ h2_ h3_ h4_ h5_ h6_ h7_ h8_ h9_ h10_
   have HO416 := n0_
   have BK410 := n1_
   have BK411 := n2_
   have BK417 := n3_
   have GW417 := n4_
   have GE417 := n5_
   have NB410_417 := n6_
   have NB417_410 := n7_
   have NB411_417 := n8_
   have NB417_411 := n9_
   have HB := n10_
   clear n0_ n1_ n2_ n3_ n4_ n5_ n6_ n7_ n8_ n9_ n10_
   have hHeld : w27.cell? ⟨gb410, 0, none⟩ = some (.slice A0_0 l0_0.length c0_0) ∧ w27.cell? ⟨gb410, 1, none⟩ = some (.int .i64 a0_1) := hS_
   obtain ⟨Ao28, co28, eo28⟩ := Kd.R_slice HO416.out
   (first | subst eo28 | (injection eo28 with f1_ f2_ f3_; have f4_ := f1_.symm; have f5_ := f3_.symm; clear f1_ f2_ f3_; subst f4_; subst f5_))
   refine norm_ (a' := ?_) ?_ ?_
   rotate_left
   ·simp only [putAll, Act.put, List.setIfInBounds_toArray, List.set_cons_zero, List.set_cons_succ]
    rfl
   refine one_ (i := 8) (N := none) #[true, true, true, true, true, true, true, true, true] rfl rfl (one_of HT_.out (by kernel_rfl)) (by decide) (fun K hK => ?_)
   have hs29 : w27.cell? ⟨gb417, 0, none⟩ = some (.slice none 0 0) := (blk_cell BK417.out 0).trans rfl
   have hfs29 := blk_frozen BK417.out 0
   have hns29_0 := NB410_417.out
   have hns29_1 := NB411_417.out
   have hms29_0 := NB417_410.out
   have hms29_1 := NB417_411.out
   have hs30 : w27.cell? ⟨gb417, 1, none⟩ = some (.int .i64 0) := (blk_cell BK417.out 1).trans rfl
   have hfs30 := blk_frozen BK417.out 1
   have hns30_0 := NB410_417.out
   have hns30_1 := NB411_417.out
   have hms30_0 := NB417_410.out
   have hms30_1 := NB417_411.out
   refine skip_ (w1 := ?_) (by rfl) rfl ?_ ?_
   rotate_left
   ·go_simp
    rfl
   refine hK.out _ _ ⟨((cell_far (p := ⟨gb417, _, none⟩) NB410_417.out _).trans (((cell_far (p := ⟨gb417, _, none⟩) NB410_417.out _).trans (hHeld.1)))), ((cell_far (p := ⟨gb417, _, none⟩) NB410_417.out _).trans (((cell_far (p := ⟨gb417, _, none⟩) NB410_417.out _).trans (hHeld.2))))⟩ (fun hHeld => ?_)
   clear hK K
   refine done_ (done_of HT_.out (by kernel_rfl)) ?_
   try go_wp2
   go_loopg [9] k (fun kq v9 w' => ∃ (x9_1 : Int) (x418000_1 : List (S43)) (u418000 : Value), v9 = .int .i64 x9_1 ∧ Aside0 (heronryref21_Pick.l0 kq l1 t413 x9_1 l0_0 a0_1 x418000_1 a0_1 = some (r1, r2, r3, r4)) ∧ Aside0 (kq ≤ k) ∧ Aside0 (Kd.R k43 43 w' w.heap.size (fun _ => True) u418000 x418000_1) ∧ Aside0 (w'.heap[gb410]? = some (.cells #[(.slice A0_0 l0_0.length c0_0), .int .i64 a0_1] 39 (0, 0))) ∧ Aside0 (w'.heap[gb411]? = some (.cells #[(.slice none 0 0), .int .i64 0] 39 (0, 0))) ∧ Aside0 (w'.heap[gb417]? = some (.cells #[u418000, .int .i64 a0_1] 39 (0, 0))) ∧ Aside0 (Below w.heap.size w w'))
   case atStart => exact ⟨(0), (t414), (.slice Ao28 t414.length co28), (by first | rfl | (simp; done) | (simp [*]; done)), H', ⟨Nat.le_refl _⟩, ⟨by (with_reducible repeat (first | apply Kd.R_alloc | apply Kd.R_drewN | apply Kd.R_drew)); exact Kd.R_mono (Kd.R_far (p := ⟨gb417, 1, none⟩) (Kd.R_far (p := ⟨gb417, 0, none⟩) (Kd.R_types HO416.out BK417.out (by decide)) (fun _ hk => hk.2) (.slice Ao28 t414.length co28)) (fun _ hk => hk.2) (.int .i64 a0_1)) (fun _ hk => trivial)⟩, ⟨by (with_reducible repeat (first | refine blk_drewN ?_ _ | refine blk_drew ?_ | refine blk_alloc ?_ _)); refine blk_far ?_ NB410_417.out _; (with_reducible repeat (first | refine blk_drewN ?_ _ | refine blk_drew ?_ | refine blk_alloc ?_ _)); refine blk_far ?_ NB410_417.out _; (with_reducible repeat (first | refine blk_drewN ?_ _ | refine blk_drew ?_ | refine blk_alloc ?_ _)); exact BK410.out⟩, ⟨by (with_reducible repeat (first | refine blk_drewN ?_ _ | refine blk_drew ?_ | refine blk_alloc ?_ _)); refine blk_far ?_ NB411_417.out _; (with_reducible repeat (first | refine blk_drewN ?_ _ | refine blk_drew ?_ | refine blk_alloc ?_ _)); refine blk_far ?_ NB411_417.out _; (with_reducible repeat (first | refine blk_drewN ?_ _ | refine blk_drew ?_ | refine blk_alloc ?_ _)); exact BK411.out⟩, ⟨by (with_reducible repeat (first | refine blk_drewN ?_ _ | refine blk_drew ?_ | refine blk_alloc ?_ _)); refine blk_put (cs := #[.slice Ao28 t414.length co28, .int .i64 0]) ?_ 1 _ rfl; (with_reducible repeat (first | refine blk_drewN ?_ _ | refine blk_drew ?_ | refine blk_alloc ?_ _)); refine blk_put (cs := #[.slice none 0 0, .int .i64 0]) ?_ 0 _ rfl; (with_reducible repeat (first | refine blk_drewN ?_ _ | refine blk_drew ?_ | refine blk_alloc ?_ _)); exact BK417.out⟩, ⟨by repeat (first | (with_reducible first | exact HB.out | apply below_alloc | apply pw_below_drewN | apply below_drew1 | refine below_set ?_ GE410.out | refine below_set ?_ GE411.out | refine below_set ?_ GE417.out) | exact HB.out)⟩⟩
   case round =>
    clear H'
    try clear c1
    try clear c2
    try clear p2
    try clear c4
    try clear c6
    try clear c6b0
    try clear c9
    try clear c13
    try clear c18
    try clear c21
    try clear hcz10_0
    try clear hcz10_1
    try clear hcz12_0
    try clear hcz12_1
    try clear hcz14_0
    try clear hcz14_1
    try clear hcz19_0
    try clear hcz19_1
    try clear hcz21_0
    try clear hcz21_1
    try clear hfz10_0
    try clear hfz10_1
    try clear hfz12_0
    try clear hfz12_1
    try clear hfz14_0
    try clear hfz14_1
    try clear hfz19_0
    try clear hfz19_1
    try clear hfz21_0
    try clear hfz21_1
    obtain ⟨x9_1, x418000_1, u418000, rfl, HA, HK1, HO_418000, BK410, BK411, BK417, HB⟩ := hrel
    cases gk with
    | zero => exact absurd HA.out (by simp [heronryref21_Pick.l0])
    | succ k1 =>
     have H := HA.out
     clear HA
     simp only [heronryref21_Pick.l0] at H
     by_cases c31 : x9_1 < (x418000_1.length : Int)
     ·rw [if_pos c31] at H
      have c31b0 : decide (x9_1 < (x418000_1.length : Int)) = true := decide_eq_true c31
      clear c31
      by_cases c32 : 0 ≤ x9_1
      ·rw [if_pos c32] at H
       have c32b0 : decide (0 ≤ x9_1) = true := decide_eq_true c32
       clear c32
       replace H := Option.bind_eq_some_iff.mp H
       obtain ⟨t419, A330, H⟩ := H
       replace H : (if t419 = true then (heronryref21_Pick.l0 k1 l1 t413 (wrap64 (x9_1 + 1)) l0_0 a0_1 (x418000_1.set (x9_1 : Int).toNat (⟨(rd_T43 x418000_1 x9_1).f0, (rd_T43 x418000_1 x9_1).f1, wrap64 (((rd_T43 x418000_1 x9_1).f2) + 1)⟩ : S43)) a0_1) else (heronryref21_Pick.l0 k1 l1 t413 (wrap64 (x9_1 + 1)) l0_0 a0_1 x418000_1 a0_1)) = some (r1, r2, r3, r4) := H
       have A33 := Aside0.mk A330
       clear A330
       by_cases c34 : t419 = true
       ·subst c34
        have H1 : (heronryref21_Pick.l0 k1 l1 t413 (wrap64 (x9_1 + 1)) l0_0 a0_1 (x418000_1.set (x9_1 : Int).toNat (⟨(rd_T43 x418000_1 x9_1).f0, (rd_T43 x418000_1 x9_1).f1, wrap64 (((rd_T43 x418000_1 x9_1).f2) + 1)⟩ : S43)) a0_1) = some (r1, r2, r3, r4) := by rw [if_pos rfl] at H; exact H
        clear H
        have H := H1
        clear H1
        obtain ⟨y421, hy421⟩ : ∃ y_ : List (S43), y_ = (x418000_1.set (x9_1 : Int).toNat (⟨(rd_T43 x418000_1 x9_1).f0, (rd_T43 x418000_1 x9_1).f1, wrap64 (((rd_T43 x418000_1 x9_1).f2) + 1)⟩ : S43)) := ⟨_, rfl⟩
        replace H : (heronryref21_Pick.l0 k1 l1 t413 (wrap64 (x9_1 + 1)) l0_0 a0_1 y421 a0_1) = some (r1, r2, r3, r4) := by first | (rw [hy421]; with_reducible exact H) | (have H2_ := (Option.bind_some _ _).symm.trans H; rw [hy421]; with_reducible exact H2_) | (have H2_ := (Option.bind_some _ _).symm.trans H; with_reducible exact H2_) | with_reducible exact H | (rw [hy421]; exact H) | exact H
        have Ny421 := Aside0.mk hy421
        clear hy421
        have H' := Aside0.mk H
        clear H
        have hnb36 := NB417_410.out
        have hnc36 := NB410_417.out
        have hnb37 := NB417_411.out
        have hnc37 := NB411_417.out
        have hcz38_0 : wr.cell? ⟨gb417, 0, none⟩ = some (u418000) := (blk_cell BK417.out 0).trans rfl
        have hcz38_1 : wr.cell? ⟨gb417, 1, none⟩ = some (.int .i64 a0_1) := (blk_cell BK417.out 1).trans rfl
        have hfz38_0 := blk_frozen BK417.out 0
        have hfz38_1 := blk_frozen BK417.out 1
        obtain ⟨Ao39, co39, eo39⟩ := Kd.R_slice HO_418000.out
        subst eo39
        have p418 : 0 ≤ (x9_1 : Int) := of_decide_eq_true (by first | (with_reducible assumption) | assumption)
        have q418 : x9_1 < (x418000_1.length : Int) := of_decide_eq_true (by first | (with_reducible assumption) | assumption)
        obtain ⟨ad418, e418, hx418_0, hx418_1, hx418_2⟩ := at_T43 (Kd.R_reads' HO_418000.out).2.2 x9_1 p418 q418
        cases e418
        replace p418 := eq_true p418
        replace q418 := eq_true q418
        go_wp2_with (first | ((with_reducible refine gate_callee (f := 44) rfl ?_); refine goesL_ (some 41) rfl rfl Try.func44 (by kernel_rfl) rfl #[.int .i64 ((rd_T43 x418000_1 x9_1).f0), .slice A1 l1.length c1] rfl (by (try simp only [List.map_toArray, List.map_cons, List.map_nil]); first | done | rfl | (simp only [List.length_drop, List.length_take]; rfl)) ?_; (with_reducible refine (heronryref21_among.calls k1 ((rd_T43 x418000_1 x9_1).f0) _ _ l1 true _ ?side1 ?side2 A33.out).mono ?_); (case side1 => repeat (first | exact (Kd.C_below HR1.out HB.out) | (with_reducible refine Kd.C_alloc ?_ _) | (with_reducible refine Kd.C_drewN ?_ _) | (with_reducible refine Kd.C_drew ?_))); (case side2 => exact HC1.out); rintro e w' ⟨rfl, ⟨nd, rfl⟩⟩; refine ⟨_, rfl, ?_⟩; (try (rw [drewN_self wr]; generalize hq_ : World.drewN wr _ = wr; have n0_ : Aside0 (Kd.R k43 43 wr w.heap.size (fun _ => True) (.slice (some ad418) x418000_1.length co39) x418000_1) := ⟨by rw [← hq_]; exact (by (with_reducible repeat (first | apply Kd.R_alloc | apply Kd.R_drewN | apply Kd.R_drew)); exact HO_418000.out)⟩; have n1_ : Aside0 (wr.heap[gb410]? = some (.cells #[.slice A0_0 l0_0.length c0_0, .int .i64 a0_1] 39 (0, 0))) := ⟨by rw [← hq_]; exact (by (with_reducible repeat (first | refine blk_drewN ?_ _ | refine blk_drew ?_ | refine blk_alloc ?_ _)); exact BK410.out)⟩; have n2_ : Aside0 (wr.heap[gb411]? = some (.cells #[.slice none 0 0, .int .i64 0] 39 (0, 0))) := ⟨by rw [← hq_]; exact (by (with_reducible repeat (first | refine blk_drewN ?_ _ | refine blk_drew ?_ | refine blk_alloc ?_ _)); exact BK411.out)⟩; have n3_ : Aside0 (wr.heap[gb417]? = some (.cells #[.slice (some ad418) x418000_1.length co39, .int .i64 a0_1] 39 (0, 0))) := ⟨by rw [← hq_]; exact (by (with_reducible repeat (first | refine blk_drewN ?_ _ | refine blk_drew ?_ | refine blk_alloc ?_ _)); exact BK417.out)⟩; have n4_ : Aside0 (Below w.heap.size w wr) := ⟨by rw [← hq_]; exact (by repeat (first | (with_reducible first | exact HB.out | apply below_alloc | apply pw_below_drewN | apply below_drew1 | refine below_set ?_ GE410.out | refine below_set ?_ GE411.out | refine below_set ?_ GE417.out) | exact HB.out))⟩; clear HO_418000 BK410 BK411 BK417 HB hq_; have HO_418000 := n0_; have BK410 := n1_; have BK411 := n2_; have BK417 := n3_; have HB := n4_; clear n0_ n1_ n2_ n3_ n4_)); have p420 : 0 ≤ (x9_1 : Int) := of_decide_eq_true (by first | (with_reducible assumption) | assumption); have q420 : x9_1 < (x418000_1.length : Int) := of_decide_eq_true (by first | (with_reducible assumption) | assumption); obtain ⟨ad420, e420, hx420_0, hx420_1, hx420_2⟩ := at_T43 (Kd.R_reads' HO_418000.out).2.2 x9_1 p420 q420; obtain rfl : ad418 = ad420 := (by injection e420); have hcz38b_0 : wr.cell? ⟨gb417, 0, none⟩ = some (.slice (some ad418) x418000_1.length co39) := (blk_cell BK417.out 0).trans rfl; have hcz38b_1 : wr.cell? ⟨gb417, 1, none⟩ = some (.int .i64 a0_1) := (blk_cell BK417.out 1).trans rfl; have hfz38b_0 := blk_frozen BK417.out 0; have hfz38b_1 := blk_frozen BK417.out 1; replace p420 := eq_true p420; replace q420 := eq_true q420; have p35 : 0 ≤ (x9_1 : Int) := of_decide_eq_true (by first | (with_reducible assumption) | assumption); have q35 : (x9_1 : Int) < ((x418000_1.length : Int) : Int) := of_decide_eq_true (by first | (with_reducible assumption) | assumption); obtain ⟨go35, co35, eo35, gb35, gl35, cl35, HG35⟩ := Kd.R_form HO_418000.out (by omega); (first | cases eo35 | (injection eo35 with ea_ en_ ec_; (first | subst ea_ | (injection ea_ with ea_; subst ea_)); subst ec_; clear en_)); have GB35 := Aside0.mk gb35; have GG35 := Aside0.mk HG35; clear gb35 gl35 HG35; (first | simp only [add_plain] at hx418_0 | skip); (first | simp only [add_plain] at hx418_1 | skip); (first | simp only [add_plain] at hx418_2 | skip); (first | simp only [add_plain] at hx420_0 | skip); (first | simp only [add_plain] at hx420_1 | skip); (first | simp only [add_plain] at hx420_2 | skip); obtain ⟨ce35, hcl35, hM35, hcc35, hfr35⟩ := Kd.R_elem HO_418000.out z43 (x9_1 : Int) p35 q35; obtain rfl := k43_openM hM35; have hx35_0 : wr.cell? ⟨go35, (x9_1 : Int).toNat * 3, none⟩ = some (.int .i64 ((rd_T43 x418000_1 x9_1).f0)) := hcc35 0 _ rfl; have hx35_1 : wr.cell? ⟨go35, (x9_1 : Int).toNat * 3 + 1, none⟩ = some (.int .u64 ((rd_T43 x418000_1 x9_1).f1)) := hcc35 1 _ rfl; have hx35_2 : wr.cell? ⟨go35, (x9_1 : Int).toNat * 3 + 2, none⟩ = some (.int .i64 ((rd_T43 x418000_1 x9_1).f2)) := hcc35 2 _ rfl; have hf35_0 : wr.frozen? ⟨go35, (x9_1 : Int).toNat * 3, none⟩ = false := hfr35 0; have hf35_1 : wr.frozen? ⟨go35, (x9_1 : Int).toNat * 3 + 1, none⟩ = false := hfr35 1; have hf35_2 : wr.frozen? ⟨go35, (x9_1 : Int).toNat * 3 + 2, none⟩ = false := hfr35 2; clear hcl35 hcc35 hfr35 hM35; replace p35 := eq_true p35; replace q35 := eq_true q35; have HX40 := Aside0.mk (show Kd.R k43 43 wr w.heap.size (fun _ => True) (.slice (some ⟨go35, 0, none⟩) x418000_1.length co39) x418000_1 from (by (with_reducible repeat (first | apply Kd.R_alloc | apply Kd.R_drewN | apply Kd.R_drew)); exact HO_418000.out)); obtain ⟨ce40, hcl40, hM40, hcc40, hfr40⟩ := Kd.R_elem HX40.out z43 (x9_1 : Int) (of_decide_eq_true (by first | (with_reducible assumption) | assumption)) (by have h_ : (x9_1 : Int) < ((x418000_1.length : Int) : Int) := of_decide_eq_true (by first | (with_reducible assumption) | assumption); first | exact h_ | (have e_ := (Kd.R_reads' HO_418000.out).1; omega) | simpa using h_); obtain rfl := k43_openM hM40; have HP40 := Kd.R_seg HX40.out (x9_1 : Int) (of_decide_eq_true (by first | (with_reducible assumption) | assumption)) (by have h_ : (x9_1 : Int) < ((x418000_1.length : Int) : Int) := of_decide_eq_true (by first | (with_reducible assumption) | assumption); first | exact h_ | (have e_ := (Kd.R_reads' HO_418000.out).1; omega) | simpa using h_) (seg := [.int .i64 (wrap64 (((rd_T43 x418000_1 x9_1).f2) + 1))]) (j := 2) hcl40 hcc40 (show 3 ≤ 3 from by decide) (x' := (⟨(rd_T43 x418000_1 x9_1).f0, (rd_T43 x418000_1 x9_1).f1, wrap64 (((rd_T43 x418000_1 x9_1).f2) + 1)⟩ : S43)) (k43_mkM _ _ _ (⟨(rd_T43 x418000_1 x9_1).f0, (rd_T43 x418000_1 x9_1).f1, wrap64 (((rd_T43 x418000_1 x9_1).f2) + 1)⟩ : S43) ) (fun _ hk => hk); have hx40_2 := hcc40 2 _ rfl; (try simp only [show (k43).sz = 3 from rfl, Nat.mul_one, Nat.add_zero] at hx40_2); have hf40_2 := hfr40 2; (try simp only [show (k43).sz = 3 from rfl, Nat.mul_one, Nat.add_zero] at hf40_2); clear hcl40 hcc40 hfr40 hM40) | ((with_reducible refine gate_store (t := 3) (p := 50) rfl ?_); refine store_event (t := 3) (p := 50) (v := ?vo_w41) (w1 := (wr.setCell ⟨go35, (x9_1 : Int).toNat * 3 + 2, none⟩ (.int .i64 (wrap64 (((rd_T43 x418000_1 x9_1).f2) + 1))))) ?hg ?ho ?hn ?hr ?_; (case ho => rfl); (case hg => rfl); (case hn => rfl); (case hr => first | (go_simp; done) | (go_simp; rfl)); intro w41 hw; have hg : wr.grownBy w41 (some go35) := (by rw [hw]; exact HP40.2); have hp_ : Kd.R k43 43 w41 w.heap.size (fun _ => True) (.slice (some ⟨go35, 0, none⟩) x418000_1.length co39) y421 := (by rw [hw, Ny421.out]; exact HP40.1); clear HP40; have n0_ := Aside0.mk (hp_); have n1_ := Aside0.mk (blk_grown (g := gb410) (o := .cells #[.slice A0_0 l0_0.length c0_0, .int .i64 a0_1] 39 (0, 0)) (by (with_reducible repeat (first | refine blk_drewN ?_ _ | refine blk_drew ?_ | refine blk_alloc ?_ _)); exact BK410.out) hg (Kd.R_ne HO_418000.out BK410.out (by decide))); have n2_ := Aside0.mk (blk_grown (g := gb411) (o := .cells #[.slice none 0 0, .int .i64 0] 39 (0, 0)) (by (with_reducible repeat (first | refine blk_drewN ?_ _ | refine blk_drew ?_ | refine blk_alloc ?_ _)); exact BK411.out) hg (Kd.R_ne HO_418000.out BK411.out (by decide))); have n3_ := Aside0.mk (blk_grown (g := gb417) (o := .cells #[.slice (some ⟨go35, 0, none⟩) x418000_1.length co39, .int .i64 a0_1] 39 (0, 0)) (by (with_reducible repeat (first | refine blk_drewN ?_ _ | refine blk_drew ?_ | refine blk_alloc ?_ _)); exact BK417.out) hg (Kd.R_ne HO_418000.out BK417.out (by decide))); have n4_ := Aside0.mk ((by rw [hw]; exact below_set (HB.out) GB35.out : Below w.heap.size w w41)); clear HO_418000; clear BK410; clear BK411; clear BK417; clear HB; have HO_418000 := n0_; have BK410 := n1_; have BK411 := n2_; have BK417 := n3_; have HB := n4_; clear n0_ n1_ n2_ n3_ n4_; clear hg hw hp_))
        go_roundg k1
        case measure => have := HK1.out; omega
        case rel => exact ⟨(wrap64 (x9_1 + 1)), (y421), (.slice (some ⟨go35, 0, none⟩) x418000_1.length co39), (by first | rfl | (simp; done) | (simp [*]; done)), H', ⟨by have := HK1.out; omega⟩, ⟨by (with_reducible repeat (first | apply Kd.R_alloc | apply Kd.R_drewN | apply Kd.R_drew)); exact HO_418000.out⟩, ⟨by (with_reducible repeat (first | refine blk_drewN ?_ _ | refine blk_drew ?_ | refine blk_alloc ?_ _)); exact BK410.out⟩, ⟨by (with_reducible repeat (first | refine blk_drewN ?_ _ | refine blk_drew ?_ | refine blk_alloc ?_ _)); exact BK411.out⟩, ⟨by (with_reducible repeat (first | refine blk_drewN ?_ _ | refine blk_drew ?_ | refine blk_alloc ?_ _)); exact BK417.out⟩, ⟨by repeat (first | (with_reducible first | exact HB.out | apply below_alloc | apply pw_below_drewN | apply below_drew1 | refine below_set ?_ GE410.out | refine below_set ?_ GE411.out | refine below_set ?_ GE417.out) | exact HB.out)⟩⟩
       ·replace c34 := Bool.eq_false_iff.mpr c34
        subst c34
        have H1 : (heronryref21_Pick.l0 k1 l1 t413 (wrap64 (x9_1 + 1)) l0_0 a0_1 x418000_1 a0_1) = some (r1, r2, r3, r4) := by rw [if_neg (show ¬ (false = true) by decide)] at H; exact H
        clear H
        have H := H1
        clear H1
        have H' := Aside0.mk H
        clear H
        have hnb42 := NB417_410.out
        have hnc42 := NB410_417.out
        have hnb43 := NB417_411.out
        have hnc43 := NB411_417.out
        have hcz44_0 : wr.cell? ⟨gb417, 0, none⟩ = some (u418000) := (blk_cell BK417.out 0).trans rfl
        have hcz44_1 : wr.cell? ⟨gb417, 1, none⟩ = some (.int .i64 a0_1) := (blk_cell BK417.out 1).trans rfl
        have hfz44_0 := blk_frozen BK417.out 0
        have hfz44_1 := blk_frozen BK417.out 1
        obtain ⟨Ao45, co45, eo45⟩ := Kd.R_slice HO_418000.out
        subst eo45
        have p418 : 0 ≤ (x9_1 : Int) := of_decide_eq_true (by first | (with_reducible assumption) | assumption)
        have q418 : x9_1 < (x418000_1.length : Int) := of_decide_eq_true (by first | (with_reducible assumption) | assumption)
        obtain ⟨ad418, e418, hx418_0, hx418_1, hx418_2⟩ := at_T43 (Kd.R_reads' HO_418000.out).2.2 x9_1 p418 q418
        cases e418
        replace p418 := eq_true p418
        replace q418 := eq_true q418
        go_wp2_with (first | ((with_reducible refine gate_callee (f := 44) rfl ?_); refine goesL_ (some 41) rfl rfl Try.func44 (by kernel_rfl) rfl #[.int .i64 ((rd_T43 x418000_1 x9_1).f0), .slice A1 l1.length c1] rfl (by (try simp only [List.map_toArray, List.map_cons, List.map_nil]); first | done | rfl | (simp only [List.length_drop, List.length_take]; rfl)) ?_; (with_reducible refine (heronryref21_among.calls k1 ((rd_T43 x418000_1 x9_1).f0) _ _ l1 false _ ?side1 ?side2 A33.out).mono ?_); (case side1 => repeat (first | exact (Kd.C_below HR1.out HB.out) | (with_reducible refine Kd.C_alloc ?_ _) | (with_reducible refine Kd.C_drewN ?_ _) | (with_reducible refine Kd.C_drew ?_))); (case side2 => exact HC1.out); rintro e w' ⟨rfl, ⟨nd, rfl⟩⟩; refine ⟨_, rfl, ?_⟩))
        go_roundg k1
        case measure => have := HK1.out; omega
        case rel => exact ⟨(wrap64 (x9_1 + 1)), (x418000_1), (.slice (some ad418) x418000_1.length co45), (by first | rfl | (simp; done) | (simp [*]; done)), H', ⟨by have := HK1.out; omega⟩, ⟨by (with_reducible repeat (first | apply Kd.R_alloc | apply Kd.R_drewN | apply Kd.R_drew)); exact HO_418000.out⟩, ⟨by (with_reducible repeat (first | refine blk_drewN ?_ _ | refine blk_drew ?_ | refine blk_alloc ?_ _)); exact BK410.out⟩, ⟨by (with_reducible repeat (first | refine blk_drewN ?_ _ | refine blk_drew ?_ | refine blk_alloc ?_ _)); exact BK411.out⟩, ⟨by (with_reducible repeat (first | refine blk_drewN ?_ _ | refine blk_drew ?_ | refine blk_alloc ?_ _)); exact BK417.out⟩, ⟨by repeat (first | (with_reducible first | exact HB.out | apply below_alloc | apply pw_below_drewN | apply below_drew1 | refine below_set ?_ GE410.out | refine below_set ?_ GE411.out | refine below_set ?_ GE417.out) | exact HB.out)⟩⟩
      ·rw [if_neg c32] at H
       exact absurd H (by simp)
     ·rw [if_neg c31] at H
      have c31b0 : decide (x9_1 < (x418000_1.length : Int)) = false := decide_eq_false c31
      clear c31
      by_cases c46 : 0 ≤ t413
      ·rw [if_pos c46] at H
       have c46b0 : decide (0 ≤ t413) = true := decide_eq_true c46
       clear c46
       by_cases c47 : t413 < (l0_0.length : Int)
       ·rw [if_pos c47] at H
        have c47b0 : decide (t413 < (l0_0.length : Int)) = true := decide_eq_true c47
        clear c47
        simp only [Option.some.injEq, Prod.mk.injEq] at H
        obtain ⟨rfl, rfl, rfl, rfl⟩ := H
        have hnb48 := NB417_410.out
        have hnc48 := NB410_417.out
        have hnb49 := NB417_411.out
        have hnc49 := NB411_417.out
        have hcz50_0 : wr.cell? ⟨gb417, 0, none⟩ = some (u418000) := (blk_cell BK417.out 0).trans rfl
        have hcz50_1 : wr.cell? ⟨gb417, 1, none⟩ = some (.int .i64 a0_1) := (blk_cell BK417.out 1).trans rfl
        have hfz50_0 := blk_frozen BK417.out 0
        have hfz50_1 := blk_frozen BK417.out 1
        obtain ⟨Ao51, co51, eo51⟩ := Kd.R_slice HO_418000.out
        subst eo51
        try go_wp2
        have n0_ := Aside0.mk (Kd.R_drew HO_418000.out)
        have n1_ := Aside0.mk (blk_drew BK410.out)
        have n2_ := Aside0.mk (blk_drew BK411.out)
        have n3_ := Aside0.mk (blk_drew BK417.out)
        have n4_ := Aside0.mk (below_drew1 HB.out)
        clear HO_418000
        clear BK410
        clear BK411
        clear BK417
        clear HB
        have HO_418000 := n0_
        have BK410 := n1_
        have BK411 := n2_
        have BK417 := n3_
        have HB := n4_
        clear n0_ n1_ n2_ n3_ n4_
        have p422 : 0 ≤ (t413 : Int) := of_decide_eq_true (by first | (with_reducible assumption) | assumption)
        have q422 : t413 < (l0_0.length : Int) := of_decide_eq_true (by first | (with_reducible assumption) | assumption)
        obtain ⟨ad422, e422, hx422_0, hx422_1, hx422_2⟩ := at_T43 HR0_0.out t413 p422 q422
        have hw422_2 := hx422_2
        have hw422_1 := hx422_1
        have hw422_0 := hx422_0
        cases e422
        replace hx422_0 := (HB.out.cell (World.block_lt_of_cell? w _ hx422_0)).trans hx422_0
        replace hx422_1 := (HB.out.cell (World.block_lt_of_cell? w _ hx422_1)).trans hx422_1
        replace hx422_2 := (HB.out.cell (World.block_lt_of_cell? w _ hx422_2)).trans hx422_2
        replace p422 := eq_true p422
        replace q422 := eq_true q422
        refine start_ (n := 10) (S := fun w' => w'.cell? ⟨gb417, 0, none⟩ = some (.slice Ao51 x418000_1.length co51) ∧ w'.cell? ⟨gb417, 1, none⟩ = some (.int .i64 a0_1) ∧ w'.cell? ⟨gb410, 0, none⟩ = some (.slice (some ad422) l0_0.length c0_0) ∧ w'.cell? ⟨gb410, 1, none⟩ = some (.int .i64 a0_1) ∧ w'.cell? (ad422.add ((t413).toNat * 3)) = some (.int .i64 ((rd_T43 l0_0 t413).f0)) ∧ w'.cell? ⟨(ad422.add ((t413).toNat * 3)).block, (ad422.add ((t413).toNat * 3)).off + 1, none⟩ = some (.int .u64 ((rd_T43 l0_0 t413).f1)) ∧ w'.cell? ⟨(ad422.add ((t413).toNat * 3)).block, (ad422.add ((t413).toNat * 3)).off + 2, none⟩ = some (.int .i64 ((rd_T43 l0_0 t413).f2))) (ds := []) #[false, false, false, false, false, false, false, false, false, false] (by kernel_rfl) rfl rfl ⟨(blk_cell BK417.out 0).trans rfl, (blk_cell BK417.out 1).trans rfl, (blk_cell BK410.out 0).trans rfl, (blk_cell BK410.out 1).trans rfl, ((HB.out.cell (World.block_lt_of_cell? w _ hw422_0)).trans hw422_0), ((HB.out.cell (World.block_lt_of_cell? w _ hw422_1)).trans hw422_1), ((HB.out.cell (World.block_lt_of_cell? w _ hw422_2)).trans hw422_2)⟩ (fun hHeld => ?_); refine with_tabW heronryref21_Pick.tab12 heronryref21_Pick.bits12 (fun HT_ HW_ => ?_)
        generalize wr.drew = w52 at HO_418000 BK410 BK411 BK417 HB hx422_0 hx422_1 hx422_2 hHeld ⊢
        refine pure_ (i := 1) (N := some 52) (v := ?_) (a' := ?_) #[false, true, false, false, false, false, false, false, false, false] rfl rfl (any_of HT_.out (by kernel_rfl)) (fun _ _ _ h => h) (Or.inl ⟨by rfl, ?_⟩) ?_ ?_
        rotate_left
        ·intro w'
         go_simp
         with_reducible rfl
        rotate_left
        ·simp only [Act.put, List.setIfInBounds_toArray, List.set_cons_zero, List.set_cons_succ, i64_w, i32_w]
         rfl
        refine pure_ (i := 3) (N := some 54) (v := ?_) (a' := ?_) #[false, true, false, true, false, false, false, false, false, false] rfl rfl (any_of HT_.out (by kernel_rfl)) (fun _ _ _ h => h) (Or.inl ⟨by rfl, ?_⟩) ?_ ?_
        rotate_left
        ·intro w'
         go_simp
         with_reducible rfl
        rotate_left
        ·simp only [Act.put, List.setIfInBounds_toArray, List.set_cons_zero, List.set_cons_succ, i64_w, i32_w]
         rfl
        refine take_ (i := 0) (N := some 51) (v := ?_) (a' := ?_) #[true, true, false, true, false, false, false, false, false, false] rfl rfl (take_ofW HT_.out HW_.out (by kernel_rfl)) (fun _ _ _ h => h) (Or.inl ⟨by rfl, ?_⟩) hHeld ?_ ?_
        rotate_left
        ·rintro w' ⟨s0, s1, s2, s3, s4, s5, s6⟩
         go_simp
         with_reducible rfl
        rotate_left
        ·simp only [Act.put, List.setIfInBounds_toArray, List.set_cons_zero, List.set_cons_succ, i64_w, i32_w]
         rfl
        refine take_ (i := 2) (N := some 53) (v := ?_) (a' := ?_) #[true, true, true, true, false, false, false, false, false, false] rfl rfl (take_ofW HT_.out HW_.out (by kernel_rfl)) (fun _ _ _ h => h) (Or.inl ⟨by rfl, ?_⟩) hHeld ?_ ?_
        rotate_left
        ·rintro w' ⟨s0, s1, s2, s3, s4, s5, s6⟩
         go_simp
         with_reducible rfl
        rotate_left
        ·simp only [Act.put, List.setIfInBounds_toArray, List.set_cons_zero, List.set_cons_succ, i64_w, i32_w]
         rfl
        refine pure_ (i := 4) (N := some 55) (v := ?_) (a' := ?_) #[true, true, true, true, true, false, false, false, false, false] rfl rfl (any_of HT_.out (by kernel_rfl)) (fun _ _ _ h => h) (Or.inl ⟨by rfl, ?_⟩) ?_ ?_
        rotate_left
        ·intro w'
         go_simp
         with_reducible rfl
        rotate_left
        ·simp only [Act.put, List.setIfInBounds_toArray, List.set_cons_zero, List.set_cons_succ, i64_w, i32_w]
         rfl
        refine pure_ (i := 5) (N := some 56) (v := ?_) (a' := ?_) #[true, true, true, true, true, true, false, false, false, false] rfl rfl (any_of HT_.out (by kernel_rfl)) (fun _ _ _ h => h) (Or.inl ⟨by rfl, ?_⟩) ?_ ?_
        rotate_left
        ·intro w'
         go_simp
         with_reducible rfl
        rotate_left
        ·simp only [Act.put, List.setIfInBounds_toArray, List.set_cons_zero, List.set_cons_succ, i64_w, i32_w]
         rfl
        refine take_ (i := 6) (N := some 57) (v := ?_) (a' := ?_) #[true, true, true, true, true, true, true, false, false, false] rfl rfl (take_ofW HT_.out HW_.out (by kernel_rfl)) (fun _ _ _ h => h) (Or.inl ⟨by rfl, ?_⟩) hHeld ?_ ?_
        rotate_left
        ·rintro w' ⟨s0, s1, s2, s3, s4, s5, s6⟩
         go_simp
         with_reducible rfl
        rotate_left
        ·simp only [Act.put, List.setIfInBounds_toArray, List.set_cons_zero, List.set_cons_succ, i64_w, i32_w]
         rfl
        refine one_ (i := 7) (N := none) #[true, true, true, true, true, true, true, true, false, false] rfl rfl (one_of HT_.out (by kernel_rfl)) (by decide) (fun K hK => ?_)
        have hs53 : w52.cell? ⟨gb411, 0, none⟩ = some (.slice none 0 0) := (blk_cell BK411.out 0).trans rfl
        have hfs53 := blk_frozen BK411.out 0
        have hns53_0 := NB410_411.out
        have hns53_2 := NB417_411.out
        have hms53_0 := NB411_410.out
        have hms53_2 := NB411_417.out
        have hs54 : w52.cell? ⟨gb411, 1, none⟩ = some (.int .i64 0) := (blk_cell BK411.out 1).trans rfl
        have hfs54 := blk_frozen BK411.out 1
        have hns54_0 := NB410_411.out
        have hns54_2 := NB417_411.out
        have hms54_0 := NB411_410.out
        have hms54_2 := NB411_417.out
        refine skip_ (w1 := ?_) (by rfl) rfl ?_ ?_
        rotate_left
        ·go_simp
         rfl
        refine hK.out _ _ ⟨((cell_far (p := ⟨gb411, _, none⟩) NB417_411.out _).trans (((cell_far (p := ⟨gb411, _, none⟩) NB417_411.out _).trans (hHeld.1)))), ((cell_far (p := ⟨gb411, _, none⟩) NB417_411.out _).trans (((cell_far (p := ⟨gb411, _, none⟩) NB417_411.out _).trans (hHeld.2.1)))), ((cell_far (p := ⟨gb411, _, none⟩) NB410_411.out _).trans (((cell_far (p := ⟨gb411, _, none⟩) NB410_411.out _).trans (hHeld.2.2.1)))), ((cell_far (p := ⟨gb411, _, none⟩) NB410_411.out _).trans (((cell_far (p := ⟨gb411, _, none⟩) NB410_411.out _).trans (hHeld.2.2.2.1)))), ((cell_far (p := ⟨gb411, _, none⟩) (by first | exact Nat.ne_of_lt (Nat.lt_of_lt_of_le (by have := World.block_lt_of_cell? _ _ hw422_0; first | rwa [add_block] at this | exact this) GW411.out) | (rw [add_block]; exact Nat.ne_of_lt (Nat.lt_of_lt_of_le (by have := World.block_lt_of_cell? _ _ hw422_0; first | rwa [add_block] at this | exact this) GW411.out)) | (show (Addr.add _ _).block ≠ _; rw [add_block]; exact Nat.ne_of_lt (Nat.lt_of_lt_of_le (by have := World.block_lt_of_cell? _ _ hw422_0; first | rwa [add_block] at this | exact this) GW411.out)) | (dsimp only; exact Nat.ne_of_lt (Nat.lt_of_lt_of_le (by have := World.block_lt_of_cell? _ _ hw422_0; first | rwa [add_block] at this | exact this) GW411.out))) _).trans (((cell_far (p := ⟨gb411, _, none⟩) (by first | exact Nat.ne_of_lt (Nat.lt_of_lt_of_le (by have := World.block_lt_of_cell? _ _ hw422_0; first | rwa [add_block] at this | exact this) GW411.out) | (rw [add_block]; exact Nat.ne_of_lt (Nat.lt_of_lt_of_le (by have := World.block_lt_of_cell? _ _ hw422_0; first | rwa [add_block] at this | exact this) GW411.out)) | (show (Addr.add _ _).block ≠ _; rw [add_block]; exact Nat.ne_of_lt (Nat.lt_of_lt_of_le (by have := World.block_lt_of_cell? _ _ hw422_0; first | rwa [add_block] at this | exact this) GW411.out)) | (dsimp only; exact Nat.ne_of_lt (Nat.lt_of_lt_of_le (by have := World.block_lt_of_cell? _ _ hw422_0; first | rwa [add_block] at this | exact this) GW411.out))) _).trans (hHeld.2.2.2.2.1)))), ((cell_far (p := ⟨gb411, _, none⟩) (by first | exact Nat.ne_of_lt (Nat.lt_of_lt_of_le (by have := World.block_lt_of_cell? _ _ hw422_1; first | rwa [add_block] at this | exact this) GW411.out) | (rw [add_block]; exact Nat.ne_of_lt (Nat.lt_of_lt_of_le (by have := World.block_lt_of_cell? _ _ hw422_1; first | rwa [add_block] at this | exact this) GW411.out)) | (show (Addr.add _ _).block ≠ _; rw [add_block]; exact Nat.ne_of_lt (Nat.lt_of_lt_of_le (by have := World.block_lt_of_cell? _ _ hw422_1; first | rwa [add_block] at this | exact this) GW411.out)) | (dsimp only; exact Nat.ne_of_lt (Nat.lt_of_lt_of_le (by have := World.block_lt_of_cell? _ _ hw422_1; first | rwa [add_block] at this | exact this) GW411.out))) _).trans (((cell_far (p := ⟨gb411, _, none⟩) (by first | exact Nat.ne_of_lt (Nat.lt_of_lt_of_le (by have := World.block_lt_of_cell? _ _ hw422_1; first | rwa [add_block] at this | exact this) GW411.out) | (rw [add_block]; exact Nat.ne_of_lt (Nat.lt_of_lt_of_le (by have := World.block_lt_of_cell? _ _ hw422_1; first | rwa [add_block] at this | exact this) GW411.out)) | (show (Addr.add _ _).block ≠ _; rw [add_block]; exact Nat.ne_of_lt (Nat.lt_of_lt_of_le (by have := World.block_lt_of_cell? _ _ hw422_1; first | rwa [add_block] at this | exact this) GW411.out)) | (dsimp only; exact Nat.ne_of_lt (Nat.lt_of_lt_of_le (by have := World.block_lt_of_cell? _ _ hw422_1; first | rwa [add_block] at this | exact this) GW411.out))) _).trans (hHeld.2.2.2.2.2.1)))), ((cell_far (p := ⟨gb411, _, none⟩) (by first | exact Nat.ne_of_lt (Nat.lt_of_lt_of_le (by have := World.block_lt_of_cell? _ _ hw422_2; first | rwa [add_block] at this | exact this) GW411.out) | (rw [add_block]; exact Nat.ne_of_lt (Nat.lt_of_lt_of_le (by have := World.block_lt_of_cell? _ _ hw422_2; first | rwa [add_block] at this | exact this) GW411.out)) | (show (Addr.add _ _).block ≠ _; rw [add_block]; exact Nat.ne_of_lt (Nat.lt_of_lt_of_le (by have := World.block_lt_of_cell? _ _ hw422_2; first | rwa [add_block] at this | exact this) GW411.out)) | (dsimp only; exact Nat.ne_of_lt (Nat.lt_of_lt_of_le (by have := World.block_lt_of_cell? _ _ hw422_2; first | rwa [add_block] at this | exact this) GW411.out))) _).trans (((cell_far (p := ⟨gb411, _, none⟩) (by first | exact Nat.ne_of_lt (Nat.lt_of_lt_of_le (by have := World.block_lt_of_cell? _ _ hw422_2; first | rwa [add_block] at this | exact this) GW411.out) | (rw [add_block]; exact Nat.ne_of_lt (Nat.lt_of_lt_of_le (by have := World.block_lt_of_cell? _ _ hw422_2; first | rwa [add_block] at this | exact this) GW411.out)) | (show (Addr.add _ _).block ≠ _; rw [add_block]; exact Nat.ne_of_lt (Nat.lt_of_lt_of_le (by have := World.block_lt_of_cell? _ _ hw422_2; first | rwa [add_block] at this | exact this) GW411.out)) | (dsimp only; exact Nat.ne_of_lt (Nat.lt_of_lt_of_le (by have := World.block_lt_of_cell? _ _ hw422_2; first | rwa [add_block] at this | exact this) GW411.out))) _).trans (hHeld.2.2.2.2.2.2))))⟩ (fun hHeld => ?_)
        clear hK K
        refine pure_ (i := 8) (N := some 5) (v := ?_) (a' := ?_) #[true, true, true, true, true, true, true, true, true, false] rfl rfl (any_of HT_.out (by kernel_rfl)) (fun _ _ _ h => h) (Or.inl ⟨by rfl, ?_⟩) ?_ ?_
        rotate_left
        ·intro w'
         go_simp
         with_reducible rfl
        rotate_left
        ·simp only [Act.put, List.setIfInBounds_toArray, List.set_cons_zero, List.set_cons_succ, i64_w, i32_w]
         rfl
        refine pure_ (i := 9) (N := some 6) (v := ?_) (a' := ?_) #[true, true, true, true, true, true, true, true, true, true] rfl rfl (any_of HT_.out (by kernel_rfl)) (fun _ _ _ h => h) (Or.inl ⟨by rfl, ?_⟩) ?_ ?_
        rotate_left
        ·intro w'
         go_simp
         with_reducible rfl
        rotate_left
        ·simp only [Act.put, List.setIfInBounds_toArray, List.set_cons_zero, List.set_cons_succ, i64_w, i32_w]
         rfl
        refine done_ (done_of HT_.out (by kernel_rfl)) ?_
        try go_wp2
        refine bodyPost_ret (results_ctt rfl _ _ gb411 39 #[.slice Ao51 x418000_1.length co51, .int .i64 a0_1] (0, 0) _ rfl (by (with_reducible repeat (first | refine blk_drewN ?_ _ | refine blk_drew ?_ | refine blk_alloc ?_ _)); refine blk_put (cs := #[.slice Ao51 x418000_1.length co51, .int .i64 0]) ?_ 1 _ rfl; (with_reducible repeat (first | refine blk_drewN ?_ _ | refine blk_drew ?_ | refine blk_alloc ?_ _)); refine blk_put (cs := #[.slice none 0 0, .int .i64 0]) ?_ 0 _ rfl; (with_reducible repeat (first | refine blk_drewN ?_ _ | refine blk_drew ?_ | refine blk_alloc ?_ _)); exact BK411.out) Try.underlying39 rfl (by kernel_rfl)) rfl ?_
        exact ⟨_, by first | rfl | (simp [errW_none, errW_some] <;> rfl) | (simp [*, errW_none, errW_some] <;> rfl), by (with_reducible repeat (first | apply Kd.R_alloc | apply Kd.R_drewN | apply Kd.R_drew)); exact Kd.R_mono (Kd.R_far (p := ⟨gb411, 1, none⟩) (Kd.R_far (p := ⟨gb411, 0, none⟩) (Kd.R_types HO_418000.out BK411.out (by decide)) (fun _ hk => hk.2) (.slice Ao51 x418000_1.length co51)) (fun _ hk => hk.2) (.int .i64 a0_1)) (fun _ hk => trivial), by repeat (first | (with_reducible first | exact HB.out | apply below_alloc | apply pw_below_drewN | apply below_drew1 | refine below_set ?_ GE410.out | refine below_set ?_ GE411.out | refine below_set ?_ GE417.out) | exact HB.out)⟩
       ·rw [if_neg c47] at H
        exact absurd H (by simp)
      ·rw [if_neg c46] at H
       exact absurd H (by simp)
 ·replace c4 := Bool.eq_false_iff.mpr c4
  subst c4
  have H1 : (some (([] : List (S43)), 0, 0, 1)) = some (r1, r2, r3, r4) := by rw [if_neg (show ¬ (false = true) by decide)] at H; exact H
  clear H
  have H := H1
  clear H1
  simp only [Option.some.injEq, Prod.mk.injEq] at H
  obtain ⟨rfl, rfl, rfl, rfl⟩ := H
  go_enter Try.func21, Try.ntmps21
  go_wp2_with (first | ((with_reducible refine gate_dst (N := 2) rfl ?_); refine box_event ?hg (N := 2) ?hd (cs := #[.slice A0_0 l0_0.length c0_0, .int .i64 a0_1]) (t := 39) ?hr ?_; (case hd => rfl); (case hg => rfl); (case hr => first | (go_simp; done) | (go_simp; rfl)); intro gb410 hg w55 hbox hb; have n0_ := Aside0.mk (below_step (by repeat (first | (with_reducible first | exact HB.out | apply below_alloc | apply pw_below_drewN | apply below_drew1) | exact HB.out)) hb); have n1_ := Aside0.mk (hbox); have n2_ := Aside0.mk ((by rw [hg]; exact (below_size (by repeat (first | (with_reducible first | exact HB.out | apply below_alloc | apply pw_below_drewN | apply below_drew1) | exact HB.out))) : w.heap.size ≤ gb410)); have n3_ := Aside0.mk ((by rw [hg]; exact (below_size (by repeat (first | (with_reducible first | exact HB.out | apply below_alloc | apply pw_below_drewN | apply below_drew1) | exact HB.out))) : w.heap.size ≤ gb410)); clear HB; have HB := n0_; have BK410 := n1_; have GW410 := n2_; have GE410 := n3_; clear n0_ n1_ n2_ n3_; clear hb hbox hg) | ((with_reducible refine gate_dst (N := 4) rfl ?_); refine box_event ?hg (N := 4) ?hd (cs := #[.slice none 0 0, .int .i64 0]) (t := 39) ?hr ?_; (case hd => rfl); (case hg => rfl); (case hr => first | (go_simp; done) | (go_simp; rfl)); intro gb411 hg w56 hbox hb; have n0_ := Aside0.mk (blk_below (g := gb410) (o := .cells #[.slice A0_0 l0_0.length c0_0, .int .i64 a0_1] 39 (0, 0)) (by (with_reducible repeat (first | refine blk_drewN ?_ _ | refine blk_drew ?_ | refine blk_alloc ?_ _)); exact BK410.out) hb); have n1_ := Aside0.mk (below_step (by repeat (first | (with_reducible first | exact HB.out | apply below_alloc | apply pw_below_drewN | apply below_drew1 | refine below_set ?_ GE410.out) | exact HB.out)) hb); have n2_ := Aside0.mk (hbox); have n3_ := Aside0.mk ((by rw [hg]; exact (below_size (by repeat (first | (with_reducible first | exact HB.out | apply below_alloc | apply pw_below_drewN | apply below_drew1 | refine below_set ?_ GE410.out) | exact HB.out))) : w.heap.size ≤ gb411)); have n4_ := Aside0.mk ((by rw [hg]; exact (below_size (by repeat (first | (with_reducible first | exact HB.out | apply below_alloc | apply pw_below_drewN | apply below_drew1 | refine below_set ?_ GE410.out) | exact HB.out))) : w.heap.size ≤ gb411)); have n5_ := Aside0.mk ((by rw [hg]; exact Nat.ne_of_lt (blk_lt (g := gb410) (o := .cells #[.slice A0_0 l0_0.length c0_0, .int .i64 a0_1] 39 (0, 0)) (by (with_reducible repeat (first | refine blk_drewN ?_ _ | refine blk_drew ?_ | refine blk_alloc ?_ _)); exact BK410.out)) : gb410 ≠ gb411)); have n6_ := Aside0.mk ((by rw [hg]; exact Nat.ne_of_gt (blk_lt (g := gb410) (o := .cells #[.slice A0_0 l0_0.length c0_0, .int .i64 a0_1] 39 (0, 0)) (by (with_reducible repeat (first | refine blk_drewN ?_ _ | refine blk_drew ?_ | refine blk_alloc ?_ _)); exact BK410.out)) : gb411 ≠ gb410)); clear BK410; clear HB; have BK410 := n0_; have HB := n1_; have BK411 := n2_; have GW411 := n3_; have GE411 := n4_; have NB410_411 := n5_; have NB411_410 := n6_; clear n0_ n1_ n2_ n3_ n4_ n5_ n6_; clear hb hbox hg; have hnb57 := NB410_411.out; have hnc57 := NB411_410.out; have hcz58_0 : w56.cell? ⟨gb410, 0, none⟩ = some (.slice A0_0 l0_0.length c0_0) := (blk_cell BK410.out 0).trans rfl; have hcz58_1 : w56.cell? ⟨gb410, 1, none⟩ = some (.int .i64 a0_1) := (blk_cell BK410.out 1).trans rfl; have hfz58_0 := blk_frozen BK410.out 0; have hfz58_1 := blk_frozen BK410.out 1) | ((with_reducible refine gate_callee (f := 13) rfl ?_); refine goesL_ (some 11) rfl rfl Try.func13 (by kernel_rfl) rfl #[.agg #[.slice A0_0 l0_0.length c0_0, .int .i64 a0_1]] rfl (by (try simp only [List.map_toArray, List.map_cons, List.map_nil]); first | done | rfl | (simp only [List.length_drop, List.length_take]; rfl)) ?_; (with_reducible refine (heronryref21_Sane.calls k _ _ l0_0 a0_1 false _ ?side1 ?side2 A3.out).mono ?_); (case side1 => repeat (first | exact (Kd.C_below HR0_0.out HB.out) | (with_reducible refine Kd.C_alloc ?_ _) | (with_reducible refine Kd.C_drewN ?_ _) | (with_reducible refine Kd.C_drew ?_))); (case side2 => exact HC0_0.out); rintro e w59 ⟨rfl, hb⟩; refine ⟨_, rfl, ?_⟩; have n0_ := Aside0.mk (blk_below (g := gb410) (o := .cells #[.slice A0_0 l0_0.length c0_0, .int .i64 a0_1] 39 (0, 0)) (by (with_reducible repeat (first | refine blk_drewN ?_ _ | refine blk_drew ?_ | refine blk_alloc ?_ _)); exact BK410.out) hb); have n1_ := Aside0.mk (blk_below (g := gb411) (o := .cells #[.slice none 0 0, .int .i64 0] 39 (0, 0)) (by (with_reducible repeat (first | refine blk_drewN ?_ _ | refine blk_drew ?_ | refine blk_alloc ?_ _)); exact BK411.out) hb); have n2_ := Aside0.mk (below_step (by repeat (first | (with_reducible first | exact HB.out | apply below_alloc | apply pw_below_drewN | apply below_drew1 | refine below_set ?_ GE410.out | refine below_set ?_ GE411.out) | exact HB.out)) hb); clear BK410; clear BK411; clear HB; have BK410 := n0_; have BK411 := n1_; have HB := n2_; clear n0_ n1_ n2_; (try clear hb); (try clear hb2); (try clear hk); (try clear hi); have hcz60_0 : w59.cell? ⟨gb411, 0, none⟩ = some (.slice none 0 0) := (blk_cell BK411.out 0).trans rfl; have hcz60_1 : w59.cell? ⟨gb411, 1, none⟩ = some (.int .i64 0) := (blk_cell BK411.out 1).trans rfl; have hfz60_0 := blk_frozen BK411.out 0; have hfz60_1 := blk_frozen BK411.out 1))
  refine bodyPost_ret (results_ctt rfl _ _ gb411 39 #[.slice none 0 0, .int .i64 0] (0, 0) _ rfl (by (with_reducible repeat (first | refine blk_drewN ?_ _ | refine blk_drew ?_ | refine blk_alloc ?_ _)); refine blk_put (cs := #[.slice none 0 0, .int .i64 0]) ?_ 1 _ rfl; (with_reducible repeat (first | refine blk_drewN ?_ _ | refine blk_drew ?_ | refine blk_alloc ?_ _)); refine blk_put (cs := #[.slice none 0 0, .int .i64 0]) ?_ 0 _ rfl; (with_reducible repeat (first | refine blk_drewN ?_ _ | refine blk_drew ?_ | refine blk_alloc ?_ _)); exact BK411.out) Try.underlying39 rfl (by kernel_rfl)) rfl ?_
  exact ⟨_, by first | rfl | (simp [errW_none, errW_some] <;> rfl) | (simp [*, errW_none, errW_some] <;> rfl), by first | exact Kd.R_nil _ _ _ _ _ | exact Kd.N_nil _ _ _ _ _ | exact Kd.V_nil _ _ _ _ _ | exact Kd.Q_nil _ _ _ _ _ | exact Kd.S_nil _ _ _ _ _, by repeat (first | (with_reducible first | exact HB.out | apply below_alloc | apply pw_below_drewN | apply below_drew1 | refine below_set ?_ GE410.out | refine below_set ?_ GE411.out) | exact HB.out)⟩

end Go.Proofs.Ytjbdlgjhnldfbaa.Q
