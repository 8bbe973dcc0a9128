-- Cut to what one claim reaches, out of what the kit's print laid for this seat (wip/tools/trim.py).
import Derived.Test.YtjbdlgjhnldfbaaQ0
import Derived.Test.YtjbdlgjhnldfbaaQ20
namespace Go.Proofs.Ytjbdlgjhnldfbaa.Q
open Go.RowKit Go.Proofs.YtjbdlgjhnldfbaaW.PrintWords Go.Proofs.YtjbdlgjhnldfbaaW.PrintLast Go.Proofs.YtjbdlgjhnldfbaaW.PrintMore
attribute [local go_sem] max2_int min2_int max_two min_two max_three min_three max_four min_four   -- for this text's walks alone
set_option linter.unusedVariables false
set_option linter.unusedSimpArgs false

mutual
def heronryref21_first.l0 : Nat → List Int → Int → Int → Int → List (S43) → Int → Option (Int)
 | 0, _, _, _, _, _, _ => none
 | k + 1, x1, x5, x6, x7, x403000, x403001 => if x7 < (x403000.length : Int) then (if 0 ≤ x7 then ((heronryref21_among.f k ((rd_T43 x403000 x7).f0) x1).bind fun t405 => (if t405 = true then (if ((rd_T43 x403000 x7).f2) ≥ x403001 then (if x5 < 0 then (heronryref21_first.j1 k x1 x5 x6 x7 true x403000 x403001 ((rd_T43 x403000 x7).f0) ((rd_T43 x403000 x7).f1) ((rd_T43 x403000 x7).f2)) else (if 0 ≤ x5 then (if x5 < (x403000.length : Int) then (heronryref21_first.j1 k x1 x5 x6 x7 (decide (((rd_T43 x403000 x7).f2) > ((rd_T43 x403000 x5).f2))) x403000 x403001 ((rd_T43 x403000 x7).f0) ((rd_T43 x403000 x7).f1) ((rd_T43 x403000 x7).f2)) else (none)) else (none))) else (heronryref21_first.j1 k x1 x5 x6 x7 false x403000 x403001 ((rd_T43 x403000 x7).f0) ((rd_T43 x403000 x7).f1) ((rd_T43 x403000 x7).f2))) else (heronryref21_first.l0 k x1 x5 x6 (wrap64 (x7 + 1)) x403000 x403001))) else (none)) else (if x5 ≥ 0 then (some x5) else (some x6))
def heronryref21_first.j1 : Nat → List Int → Int → Int → Int → Bool → List (S43) → Int → Int → Int → Int → Option (Int)
 | 0, _, _, _, _, _, _, _, _, _, _ => none
 | k + 1, x1, x5, x6, x7, x45, x403000, x403001, x405000, x405001, x405002 => if x45 = true then (heronryref21_first.j2 k x1 x7 x6 x7 x403000 x403001 x405000 x405001 x405002) else (heronryref21_first.j2 k x1 x5 x6 x7 x403000 x403001 x405000 x405001 x405002)
def heronryref21_first.j2 : Nat → List Int → Int → Int → Int → List (S43) → Int → Int → Int → Int → Option (Int)
 | 0, _, _, _, _, _, _, _, _, _ => none
 | k + 1, x1, x5, x6, x7, x403000, x403001, x405000, x405001, x405002 => if x6 < 0 then (heronryref21_first.l0 k x1 x5 x7 (wrap64 (x7 + 1)) x403000 x403001) else ((heronryref02_Key.f x405001).bind fun t407 => (if 0 ≤ x6 then (if x6 < (x403000.length : Int) then ((heronryref02_Key.f ((rd_T43 x403000 x6).f1)).bind fun t409 => (if t407 > t409 then (heronryref21_first.l0 k x1 x5 x7 (wrap64 (x7 + 1)) x403000 x403001) else (heronryref21_first.l0 k x1 x5 x6 (wrap64 (x7 + 1)) x403000 x403001))) else (none)) else (none)))
end
def heronryref21_first.f (k : Nat) (l0_0 : List (S43)) (a0_1 : Int) (l1 : List Int) : Option (Int) := heronryref21_first.l0 k l1 (-1) (-1) 0 l0_0 a0_1
set_option maxHeartbeats 8000000 in
set_option maxRecDepth 100000 in
theorem heronryref21_first.calls (k : Nat) (A0_0 : Option Addr) (c0_0 : Nat) (l0_0 : List (S43)) (a0_1 : Int) (A1 : Option Addr) (c1 : Nat) (l1 : List Int) (r : Int) (w : World) (hr0_0 : Kd.C k43 w A0_0 l0_0.length l0_0) (hc0_0 : l0_0.length ≤ c0_0) (hr1 : Kd.C (Kd.int .i64) w A1 l1.length l1) (hc1 : l1.length ≤ c1) (h : heronryref21_first.f k l0_0 a0_1 l1 = some r) :
  Calls Try.prog 43 #[.agg #[.slice A0_0 l0_0.length c0_0, .int .i64 a0_1], .slice A1 l1.length c1] w fun e w' => e = .returned (.int .i64 r) ∧ Below w.heap.size w w' := by
 have hu39 := Try.underlying39
 have hu43 := Try.underlying43
 have HR0_0 := Aside0.mk hr0_0
 have HC0_0 := Aside0.mk hc0_0
 clear hr0_0 hc0_0
 have HR1 := Aside0.mk hr1
 have HC1 := Aside0.mk hc1
 clear hr1 hc1
 have HB := Aside0.mk (Below.refl w.heap.size w)
 have H : (heronryref21_first.l0 k l1 (-1) (-1) 0 l0_0 a0_1) = some r := h
 clear h
 have H' := Aside0.mk H
 clear H
 go_enter Try.func43, Try.ntmps43
 go_wp2_with (first | ((with_reducible refine gate_dst (N := 2) rfl ?_); refine box_event ?hg (N := 2) ?hd (cs := #[.slice A0_0 l0_0.length c0_0, .int .i64 a0_1]) (t := 39) ?hr ?_; (case hd => rfl); (case hg => rfl); (case hr => first | (go_simp; done) | (go_simp; rfl)); intro gb402 hg w3 hbox hb; have n0_ := Aside0.mk (below_step (by repeat (first | (with_reducible first | exact HB.out | apply below_alloc | apply pw_below_drewN | apply below_drew1) | exact HB.out)) hb); have n1_ := Aside0.mk (hbox); have n2_ := Aside0.mk ((by rw [hg]; exact (below_size (by repeat (first | (with_reducible first | exact HB.out | apply below_alloc | apply pw_below_drewN | apply below_drew1) | exact HB.out))) : w.heap.size ≤ gb402)); have n3_ := Aside0.mk ((by rw [hg]; exact (below_size (by repeat (first | (with_reducible first | exact HB.out | apply below_alloc | apply pw_below_drewN | apply below_drew1) | exact HB.out))) : w.heap.size ≤ gb402)); clear HB; have HB := n0_; have BK402 := n1_; have GW402 := n2_; have GE402 := n3_; clear n0_ n1_ n2_ n3_; clear hb hbox hg))
 repeat (go_quiet (first | ((with_reducible refine gate_dst (N := 2) rfl ?_); refine box_event ?hg (N := 2) ?hd (cs := #[.slice A0_0 l0_0.length c0_0, .int .i64 a0_1]) (t := 39) ?hr ?_; (case hd => rfl); (case hg => rfl); (case hr => first | (go_simp; done) | (go_simp; rfl)); intro gb402 hg w3 hbox hb; have n0_ := Aside0.mk (below_step (by repeat (first | (with_reducible first | exact HB.out | apply below_alloc | apply pw_below_drewN | apply below_drew1) | exact HB.out)) hb); have n1_ := Aside0.mk (hbox); have n2_ := Aside0.mk ((by rw [hg]; exact (below_size (by repeat (first | (with_reducible first | exact HB.out | apply below_alloc | apply pw_below_drewN | apply below_drew1) | exact HB.out))) : w.heap.size ≤ gb402)); have n3_ := Aside0.mk ((by rw [hg]; exact (below_size (by repeat (first | (with_reducible first | exact HB.out | apply below_alloc | apply pw_below_drewN | apply below_drew1) | exact HB.out))) : w.heap.size ≤ gb402)); clear HB; have HB := n0_; have BK402 := n1_; have GW402 := n2_; have GE402 := n3_; clear n0_ n1_ n2_ n3_; clear hb hbox hg)); try go_wp2_with (first | ((with_reducible refine gate_dst (N := 2) rfl ?_); refine box_event ?hg (N := 2) ?hd (cs := #[.slice A0_0 l0_0.length c0_0, .int .i64 a0_1]) (t := 39) ?hr ?_; (case hd => rfl); (case hg => rfl); (case hr => first | (go_simp; done) | (go_simp; rfl)); intro gb402 hg w3 hbox hb; have n0_ := Aside0.mk (below_step (by repeat (first | (with_reducible first | exact HB.out | apply below_alloc | apply pw_below_drewN | apply below_drew1) | exact HB.out)) hb); have n1_ := Aside0.mk (hbox); have n2_ := Aside0.mk ((by rw [hg]; exact (below_size (by repeat (first | (with_reducible first | exact HB.out | apply below_alloc | apply pw_below_drewN | apply below_drew1) | exact HB.out))) : w.heap.size ≤ gb402)); have n3_ := Aside0.mk ((by rw [hg]; exact (below_size (by repeat (first | (with_reducible first | exact HB.out | apply below_alloc | apply pw_below_drewN | apply below_drew1) | exact HB.out))) : w.heap.size ≤ gb402)); clear HB; have HB := n0_; have BK402 := n1_; have GW402 := n2_; have GE402 := n3_; clear n0_ n1_ n2_ n3_; clear hb hbox hg)))
 go_loopg [5, 6, 7] k (fun kq v5 v6 v7 w' => ∃ (x5_1 : Int) (x6_1 : Int) (x7_1 : Int), v5 = .int .i64 x5_1 ∧ v6 = .int .i64 x6_1 ∧ v7 = .int .i64 x7_1 ∧ Aside0 (heronryref21_first.l0 kq l1 x5_1 x6_1 x7_1 l0_0 a0_1 = some r) ∧ Aside0 (kq ≤ k) ∧ Aside0 (w'.heap[gb402]? = some (.cells #[(.slice A0_0 l0_0.length c0_0), .int .i64 a0_1] 39 (0, 0))) ∧ Aside0 (Below w.heap.size w w'))
 case atStart => exact ⟨((-1)), ((-1)), (0), (by first | rfl | (simp; done) | (simp [*]; done)), (by first | rfl | (simp; done) | (simp [*]; done)), (by first | rfl | (simp; done) | (simp [*]; done)), H', ⟨Nat.le_refl _⟩, ⟨by (with_reducible repeat (first | refine blk_drewN ?_ _ | refine blk_drew ?_ | refine blk_alloc ?_ _)); exact BK402.out⟩, ⟨by repeat (first | (with_reducible first | exact HB.out | apply below_alloc | apply pw_below_drewN | apply below_drew1 | refine below_set ?_ GE402.out) | exact HB.out)⟩⟩
 case round =>
  clear H'
  try clear c1
  try clear p2
  obtain ⟨x5_1, x6_1, x7_1, rfl, rfl, rfl, HA, HK1, BK402, HB⟩ := hrel
  cases gk with
  | zero => exact absurd HA.out (by simp [heronryref21_first.l0])
  | succ k1 =>
   have H := HA.out
   clear HA
   simp only [heronryref21_first.l0] at H
   by_cases c4 : x7_1 < (l0_0.length : Int)
   ·rw [if_pos c4] at H
    have c4b0 : decide (x7_1 < (l0_0.length : Int)) = true := decide_eq_true c4
    clear c4
    by_cases c5 : 0 ≤ x7_1
    ·rw [if_pos c5] at H
     have c5b0 : decide (0 ≤ x7_1) = true := decide_eq_true c5
     clear c5
     replace H := Option.bind_eq_some_iff.mp H
     obtain ⟨t405, A60, H⟩ := H
     replace H : (if t405 = true then (if ((rd_T43 l0_0 x7_1).f2) ≥ a0_1 then (if x5_1 < 0 then (heronryref21_first.j1 k1 l1 x5_1 x6_1 x7_1 true l0_0 a0_1 ((rd_T43 l0_0 x7_1).f0) ((rd_T43 l0_0 x7_1).f1) ((rd_T43 l0_0 x7_1).f2)) else (if 0 ≤ x5_1 then (if x5_1 < (l0_0.length : Int) then (heronryref21_first.j1 k1 l1 x5_1 x6_1 x7_1 (decide (((rd_T43 l0_0 x7_1).f2) > ((rd_T43 l0_0 x5_1).f2))) l0_0 a0_1 ((rd_T43 l0_0 x7_1).f0) ((rd_T43 l0_0 x7_1).f1) ((rd_T43 l0_0 x7_1).f2)) else (none)) else (none))) else (heronryref21_first.j1 k1 l1 x5_1 x6_1 x7_1 false l0_0 a0_1 ((rd_T43 l0_0 x7_1).f0) ((rd_T43 l0_0 x7_1).f1) ((rd_T43 l0_0 x7_1).f2))) else (heronryref21_first.l0 k1 l1 x5_1 x6_1 (wrap64 (x7_1 + 1)) l0_0 a0_1)) = some r := H
     have A6 := Aside0.mk A60
     clear A60
     by_cases c7 : t405 = true
     ·subst c7
      have H1 : (if ((rd_T43 l0_0 x7_1).f2) ≥ a0_1 then (if x5_1 < 0 then (heronryref21_first.j1 k1 l1 x5_1 x6_1 x7_1 true l0_0 a0_1 ((rd_T43 l0_0 x7_1).f0) ((rd_T43 l0_0 x7_1).f1) ((rd_T43 l0_0 x7_1).f2)) else (if 0 ≤ x5_1 then (if x5_1 < (l0_0.length : Int) then (heronryref21_first.j1 k1 l1 x5_1 x6_1 x7_1 (decide (((rd_T43 l0_0 x7_1).f2) > ((rd_T43 l0_0 x5_1).f2))) l0_0 a0_1 ((rd_T43 l0_0 x7_1).f0) ((rd_T43 l0_0 x7_1).f1) ((rd_T43 l0_0 x7_1).f2)) else (none)) else (none))) else (heronryref21_first.j1 k1 l1 x5_1 x6_1 x7_1 false l0_0 a0_1 ((rd_T43 l0_0 x7_1).f0) ((rd_T43 l0_0 x7_1).f1) ((rd_T43 l0_0 x7_1).f2))) = some r := by rw [if_pos rfl] at H; exact H
      clear H
      have H := H1
      clear H1
      have HC8 := Aside0.mk H
      clear H
      have hcz9_0 : wr.cell? ⟨gb402, 0, none⟩ = some (.slice A0_0 l0_0.length c0_0) := (blk_cell BK402.out 0).trans rfl
      have hcz9_1 : wr.cell? ⟨gb402, 1, none⟩ = some (.int .i64 a0_1) := (blk_cell BK402.out 1).trans rfl
      have hfz9_0 := blk_frozen BK402.out 0
      have hfz9_1 := blk_frozen BK402.out 1
      have p403 : 0 ≤ (x7_1 : Int) := of_decide_eq_true (by first | (with_reducible assumption) | assumption)
      have q403 : x7_1 < (l0_0.length : Int) := of_decide_eq_true (by first | (with_reducible assumption) | assumption)
      obtain ⟨ad403, e403, hx403_0, hx403_1, hx403_2⟩ := at_T43 HR0_0.out x7_1 p403 q403
      cases e403
      replace hx403_0 := (HB.out.cell (World.block_lt_of_cell? w _ hx403_0)).trans hx403_0
      replace hx403_1 := (HB.out.cell (World.block_lt_of_cell? w _ hx403_1)).trans hx403_1
      replace hx403_2 := (HB.out.cell (World.block_lt_of_cell? w _ hx403_2)).trans hx403_2
      replace p403 := eq_true p403
      replace q403 := eq_true q403
      go_upto_region 8 with (first | ((with_reducible refine gate_dst (N := 8) rfl ?_); refine box_event ?hg (N := 8) ?hd (cs := #[.int .i64 0, .int .u64 0, .int .i64 0]) (t := 43) ?hr ?_; (case hd => rfl); (case hg => rfl); (case hr => first | (go_simp; done) | (go_simp; rfl)); intro gb404 hg w10 hbox hb; have n0_ := Aside0.mk (blk_below (g := gb402) (o := .cells #[.slice (some ad403) l0_0.length c0_0, .int .i64 a0_1] 39 (0, 0)) (by (with_reducible repeat (first | refine blk_drewN ?_ _ | refine blk_drew ?_ | refine blk_alloc ?_ _)); exact BK402.out) hb); have n1_ := Aside0.mk (below_step (by repeat (first | (with_reducible first | exact HB.out | apply below_alloc | apply pw_below_drewN | apply below_drew1 | refine below_set ?_ GE402.out) | exact HB.out)) hb); have n2_ := Aside0.mk (hbox); have n3_ := Aside0.mk ((by rw [hg]; exact (below_size (by repeat (first | (with_reducible first | exact HB.out | apply below_alloc | apply pw_below_drewN | apply below_drew1 | refine below_set ?_ GE402.out) | exact HB.out))) : w.heap.size ≤ gb404)); have n4_ := Aside0.mk ((by rw [hg]; exact (below_size (by repeat (first | (with_reducible first | exact HB.out | apply below_alloc | apply pw_below_drewN | apply below_drew1 | refine below_set ?_ GE402.out) | exact HB.out))) : w.heap.size ≤ gb404)); have n5_ := Aside0.mk ((by rw [hg]; exact Nat.ne_of_lt (blk_lt (g := gb402) (o := .cells #[.slice (some ad403) l0_0.length c0_0, .int .i64 a0_1] 39 (0, 0)) (by (with_reducible repeat (first | refine blk_drewN ?_ _ | refine blk_drew ?_ | refine blk_alloc ?_ _)); exact BK402.out)) : gb402 ≠ gb404)); have n6_ := Aside0.mk ((by rw [hg]; exact Nat.ne_of_gt (blk_lt (g := gb402) (o := .cells #[.slice (some ad403) l0_0.length c0_0, .int .i64 a0_1] 39 (0, 0)) (by (with_reducible repeat (first | refine blk_drewN ?_ _ | refine blk_drew ?_ | refine blk_alloc ?_ _)); exact BK402.out)) : gb404 ≠ gb402)); clear BK402; clear HB; have BK402 := n0_; have HB := n1_; have BK404 := n2_; have GW404 := n3_; have GE404 := n4_; have NB402_404 := n5_; have NB404_402 := n6_; clear n0_ n1_ n2_ n3_ n4_ n5_ n6_; clear hb hbox hg; have hnb11 := NB404_402.out; have hnc11 := NB402_404.out; have hcz12_0 : w10.cell? ⟨gb404, 0, none⟩ = some (.int .i64 0) := (blk_cell BK404.out 0).trans rfl; have hcz12_1 : w10.cell? ⟨gb404, 1, none⟩ = some (.int .u64 0) := (blk_cell BK404.out 1).trans rfl; have hcz12_2 : w10.cell? ⟨gb404, 2, none⟩ = some (.int .i64 0) := (blk_cell BK404.out 2).trans rfl; have hfz12_0 := blk_frozen BK404.out 0; have hfz12_1 := blk_frozen BK404.out 1; have hfz12_2 := blk_frozen BK404.out 2) | (go_at_call 44; (with_reducible refine (heronryref21_among.calls k1 ((rd_T43 l0_0 x7_1).f0) _ _ l1 true _ ?side1 ?side2 A6.out).mono ?_); (case side1 => exact Kd.C_below HR1.out (by repeat (first | (with_reducible first | exact HB.out | apply below_alloc | apply pw_below_drewN | apply below_drew1 | refine below_set ?_ GE402.out | refine below_set ?_ GE404.out) | exact HB.out))); (case side2 => exact HC1.out); rintro e w' ⟨rfl, ⟨nd, rfl⟩⟩; (try first | exact ⟨rfl, _, World.drewN_drewN _ _ _⟩ | exact ⟨rfl, _, Eq.trans (World.drewN_drewN _ _ _) (congrArg (World.drewN _) (Nat.add_assoc _ _ _))⟩)))
      repeat (go_quiet (first | ((with_reducible refine gate_dst (N := 8) rfl ?_); refine box_event ?hg (N := 8) ?hd (cs := #[.int .i64 0, .int .u64 0, .int .i64 0]) (t := 43) ?hr ?_; (case hd => rfl); (case hg => rfl); (case hr => first | (go_simp; done) | (go_simp; rfl)); intro gb404 hg w10 hbox hb; have n0_ := Aside0.mk (blk_below (g := gb402) (o := .cells #[.slice (some ad403) l0_0.length c0_0, .int .i64 a0_1] 39 (0, 0)) (by (with_reducible repeat (first | refine blk_drewN ?_ _ | refine blk_drew ?_ | refine blk_alloc ?_ _)); exact BK402.out) hb); have n1_ := Aside0.mk (below_step (by repeat (first | (with_reducible first | exact HB.out | apply below_alloc | apply pw_below_drewN | apply below_drew1 | refine below_set ?_ GE402.out) | exact HB.out)) hb); have n2_ := Aside0.mk (hbox); have n3_ := Aside0.mk ((by rw [hg]; exact (below_size (by repeat (first | (with_reducible first | exact HB.out | apply below_alloc | apply pw_below_drewN | apply below_drew1 | refine below_set ?_ GE402.out) | exact HB.out))) : w.heap.size ≤ gb404)); have n4_ := Aside0.mk ((by rw [hg]; exact (below_size (by repeat (first | (with_reducible first | exact HB.out | apply below_alloc | apply pw_below_drewN | apply below_drew1 | refine below_set ?_ GE402.out) | exact HB.out))) : w.heap.size ≤ gb404)); have n5_ := Aside0.mk ((by rw [hg]; exact Nat.ne_of_lt (blk_lt (g := gb402) (o := .cells #[.slice (some ad403) l0_0.length c0_0, .int .i64 a0_1] 39 (0, 0)) (by (with_reducible repeat (first | refine blk_drewN ?_ _ | refine blk_drew ?_ | refine blk_alloc ?_ _)); exact BK402.out)) : gb402 ≠ gb404)); have n6_ := Aside0.mk ((by rw [hg]; exact Nat.ne_of_gt (blk_lt (g := gb402) (o := .cells #[.slice (some ad403) l0_0.length c0_0, .int .i64 a0_1] 39 (0, 0)) (by (with_reducible repeat (first | refine blk_drewN ?_ _ | refine blk_drew ?_ | refine blk_alloc ?_ _)); exact BK402.out)) : gb404 ≠ gb402)); clear BK402; clear HB; have BK402 := n0_; have HB := n1_; have BK404 := n2_; have GW404 := n3_; have GE404 := n4_; have NB402_404 := n5_; have NB404_402 := n6_; clear n0_ n1_ n2_ n3_ n4_ n5_ n6_; clear hb hbox hg; have hnb11 := NB404_402.out; have hnc11 := NB402_404.out; have hcz12_0 : w10.cell? ⟨gb404, 0, none⟩ = some (.int .i64 0) := (blk_cell BK404.out 0).trans rfl; have hcz12_1 : w10.cell? ⟨gb404, 1, none⟩ = some (.int .u64 0) := (blk_cell BK404.out 1).trans rfl; have hcz12_2 : w10.cell? ⟨gb404, 2, none⟩ = some (.int .i64 0) := (blk_cell BK404.out 2).trans rfl; have hfz12_0 := blk_frozen BK404.out 0; have hfz12_1 := blk_frozen BK404.out 1; have hfz12_2 := blk_frozen BK404.out 2) | (go_at_call 44; (with_reducible refine (heronryref21_among.calls k1 ((rd_T43 l0_0 x7_1).f0) _ _ l1 true _ ?side1 ?side2 A6.out).mono ?_); (case side1 => exact Kd.C_below HR1.out (by repeat (first | (with_reducible first | exact HB.out | apply below_alloc | apply pw_below_drewN | apply below_drew1 | refine below_set ?_ GE402.out | refine below_set ?_ GE404.out) | exact HB.out))); (case side2 => exact HC1.out); rintro e w' ⟨rfl, ⟨nd, rfl⟩⟩; (try first | exact ⟨rfl, _, World.drewN_drewN _ _ _⟩ | exact ⟨rfl, _, Eq.trans (World.drewN_drewN _ _ _) (congrArg (World.drewN _) (Nat.add_assoc _ _ _))⟩))); go_upto_region 8 with (first | ((with_reducible refine gate_dst (N := 8) rfl ?_); refine box_event ?hg (N := 8) ?hd (cs := #[.int .i64 0, .int .u64 0, .int .i64 0]) (t := 43) ?hr ?_; (case hd => rfl); (case hg => rfl); (case hr => first | (go_simp; done) | (go_simp; rfl)); intro gb404 hg w10 hbox hb; have n0_ := Aside0.mk (blk_below (g := gb402) (o := .cells #[.slice (some ad403) l0_0.length c0_0, .int .i64 a0_1] 39 (0, 0)) (by (with_reducible repeat (first | refine blk_drewN ?_ _ | refine blk_drew ?_ | refine blk_alloc ?_ _)); exact BK402.out) hb); have n1_ := Aside0.mk (below_step (by repeat (first | (with_reducible first | exact HB.out | apply below_alloc | apply pw_below_drewN | apply below_drew1 | refine below_set ?_ GE402.out) | exact HB.out)) hb); have n2_ := Aside0.mk (hbox); have n3_ := Aside0.mk ((by rw [hg]; exact (below_size (by repeat (first | (with_reducible first | exact HB.out | apply below_alloc | apply pw_below_drewN | apply below_drew1 | refine below_set ?_ GE402.out) | exact HB.out))) : w.heap.size ≤ gb404)); have n4_ := Aside0.mk ((by rw [hg]; exact (below_size (by repeat (first | (with_reducible first | exact HB.out | apply below_alloc | apply pw_below_drewN | apply below_drew1 | refine below_set ?_ GE402.out) | exact HB.out))) : w.heap.size ≤ gb404)); have n5_ := Aside0.mk ((by rw [hg]; exact Nat.ne_of_lt (blk_lt (g := gb402) (o := .cells #[.slice (some ad403) l0_0.length c0_0, .int .i64 a0_1] 39 (0, 0)) (by (with_reducible repeat (first | refine blk_drewN ?_ _ | refine blk_drew ?_ | refine blk_alloc ?_ _)); exact BK402.out)) : gb402 ≠ gb404)); have n6_ := Aside0.mk ((by rw [hg]; exact Nat.ne_of_gt (blk_lt (g := gb402) (o := .cells #[.slice (some ad403) l0_0.length c0_0, .int .i64 a0_1] 39 (0, 0)) (by (with_reducible repeat (first | refine blk_drewN ?_ _ | refine blk_drew ?_ | refine blk_alloc ?_ _)); exact BK402.out)) : gb404 ≠ gb402)); clear BK402; clear HB; have BK402 := n0_; have HB := n1_; have BK404 := n2_; have GW404 := n3_; have GE404 := n4_; have NB402_404 := n5_; have NB404_402 := n6_; clear n0_ n1_ n2_ n3_ n4_ n5_ n6_; clear hb hbox hg; have hnb11 := NB404_402.out; have hnc11 := NB402_404.out; have hcz12_0 : w10.cell? ⟨gb404, 0, none⟩ = some (.int .i64 0) := (blk_cell BK404.out 0).trans rfl; have hcz12_1 : w10.cell? ⟨gb404, 1, none⟩ = some (.int .u64 0) := (blk_cell BK404.out 1).trans rfl; have hcz12_2 : w10.cell? ⟨gb404, 2, none⟩ = some (.int .i64 0) := (blk_cell BK404.out 2).trans rfl; have hfz12_0 := blk_frozen BK404.out 0; have hfz12_1 := blk_frozen BK404.out 1; have hfz12_2 := blk_frozen BK404.out 2) | (go_at_call 44; (with_reducible refine (heronryref21_among.calls k1 ((rd_T43 l0_0 x7_1).f0) _ _ l1 true _ ?side1 ?side2 A6.out).mono ?_); (case side1 => exact Kd.C_below HR1.out (by repeat (first | (with_reducible first | exact HB.out | apply below_alloc | apply pw_below_drewN | apply below_drew1 | refine below_set ?_ GE402.out | refine below_set ?_ GE404.out) | exact HB.out))); (case side2 => exact HC1.out); rintro e w' ⟨rfl, ⟨nd, rfl⟩⟩; (try first | exact ⟨rfl, _, World.drewN_drewN _ _ _⟩ | exact ⟨rfl, _, Eq.trans (World.drewN_drewN _ _ _) (congrArg (World.drewN _) (Nat.add_assoc _ _ _))⟩))))
      (try simp only [Act.put, List.setIfInBounds_toArray, List.set_cons_zero, List.set_cons_succ])
      go_cut [45] (fun v45 wc => ∃ (kq : Nat) (x45_7 : Bool), v45 = .bool x45_7 ∧ Aside0 (heronryref21_first.j1 kq l1 x5_1 x6_1 x7_1 x45_7 l0_0 a0_1 ((rd_T43 l0_0 x7_1).f0) ((rd_T43 l0_0 x7_1).f1) ((rd_T43 l0_0 x7_1).f2) = some r) ∧ Aside0 (kq ≤ k1) ∧ Aside0 (wc.heap[gb402]? = some (.cells #[(.slice (some ad403) l0_0.length c0_0), .int .i64 a0_1] 39 (0, 0))) ∧ Aside0 (wc.heap[gb404]? = some (.cells #[.int .i64 ((rd_T43 l0_0 x7_1).f0), .int .u64 ((rd_T43 l0_0 x7_1).f1), .int .i64 ((rd_T43 l0_0 x7_1).f2)] 43 (0, 0))) ∧ Aside0 (Below w.heap.size w wc))
      case first =>
       have H := HC8.out
       clear HC8
       by_cases c13 : ((rd_T43 l0_0 x7_1).f2) ≥ a0_1
       ·rw [if_pos c13] at H
        have c13b0 : decide (a0_1 ≤ ((rd_T43 l0_0 x7_1).f2)) = true := decide_eq_true c13
        clear c13
        (first | rw [c13b0] | (simp only [i64_w, i32_w]; rw [c13b0]) | skip)
        by_cases c14 : x5_1 < 0
        ·rw [if_pos c14] at H
         have c14b0 : decide (x5_1 < 0) = true := decide_eq_true c14
         clear c14
         have H' := Aside0.mk H
         clear H
         have hnb15 := NB404_402.out
         have hnc15 := NB402_404.out
         have hcz16_0 : w10.cell? ⟨gb404, 0, none⟩ = some (.int .i64 0) := (blk_cell BK404.out 0).trans rfl
         have hcz16_1 : w10.cell? ⟨gb404, 1, none⟩ = some (.int .u64 0) := (blk_cell BK404.out 1).trans rfl
         have hcz16_2 : w10.cell? ⟨gb404, 2, none⟩ = some (.int .i64 0) := (blk_cell BK404.out 2).trans rfl
         have hfz16_0 := blk_frozen BK404.out 0
         have hfz16_1 := blk_frozen BK404.out 1
         have hfz16_2 := blk_frozen BK404.out 2
         have hcz17_0 : w10.cell? ⟨gb402, 0, none⟩ = some (.slice (some ad403) l0_0.length c0_0) := (blk_cell BK402.out 0).trans rfl
         have hcz17_1 : w10.cell? ⟨gb402, 1, none⟩ = some (.int .i64 a0_1) := (blk_cell BK402.out 1).trans rfl
         have hfz17_0 := blk_frozen BK402.out 0
         have hfz17_1 := blk_frozen BK402.out 1
         go_wp2
         repeat (go_quiet (fail); try go_wp2)
         go_meet
         case rel => exact ⟨_, (true), (by first | rfl | (simp; done) | (simp [*]; done)), H', ⟨by have := HK1.out; first | omega | exact Nat.le_refl _⟩, ⟨by (with_reducible repeat (first | refine blk_drewN ?_ _ | refine blk_drew ?_ | refine blk_alloc ?_ _)); refine blk_far ?_ NB402_404.out _; (with_reducible repeat (first | refine blk_drewN ?_ _ | refine blk_drew ?_ | refine blk_alloc ?_ _)); refine blk_far ?_ NB402_404.out _; (with_reducible repeat (first | refine blk_drewN ?_ _ | refine blk_drew ?_ | refine blk_alloc ?_ _)); refine blk_far ?_ NB402_404.out _; (with_reducible repeat (first | refine blk_drewN ?_ _ | refine blk_drew ?_ | refine blk_alloc ?_ _)); exact BK402.out⟩, ⟨by (with_reducible repeat (first | refine blk_drewN ?_ _ | refine blk_drew ?_ | refine blk_alloc ?_ _)); refine blk_put (cs := #[.int .i64 ((rd_T43 l0_0 x7_1).f0), .int .u64 ((rd_T43 l0_0 x7_1).f1), .int .i64 0]) ?_ 2 _ rfl; (with_reducible repeat (first | refine blk_drewN ?_ _ | refine blk_drew ?_ | refine blk_alloc ?_ _)); refine blk_put (cs := #[.int .i64 ((rd_T43 l0_0 x7_1).f0), .int .u64 0, .int .i64 0]) ?_ 1 _ rfl; (with_reducible repeat (first | refine blk_drewN ?_ _ | refine blk_drew ?_ | refine blk_alloc ?_ _)); refine blk_put (cs := #[.int .i64 0, .int .u64 0, .int .i64 0]) ?_ 0 _ rfl; (with_reducible repeat (first | refine blk_drewN ?_ _ | refine blk_drew ?_ | refine blk_alloc ?_ _)); exact BK404.out⟩, ⟨by repeat (first | (with_reducible first | exact HB.out | apply below_alloc | apply pw_below_drewN | apply below_drew1 | refine below_set ?_ GE402.out | refine below_set ?_ GE404.out) | exact HB.out)⟩⟩
        ·rw [if_neg c14] at H
         have c14b0 : decide (x5_1 < 0) = false := decide_eq_false c14
         clear c14
         by_cases c18 : 0 ≤ x5_1
         ·rw [if_pos c18] at H
          have c18b0 : decide (0 ≤ x5_1) = true := decide_eq_true c18
          clear c18
          by_cases c19 : x5_1 < (l0_0.length : Int)
          ·rw [if_pos c19] at H
           have c19b0 : decide (x5_1 < (l0_0.length : Int)) = true := decide_eq_true c19
           clear c19
           have H' := Aside0.mk H
           clear H
           have hnb20 := NB404_402.out
           have hnc20 := NB402_404.out
           have hcz21_0 : w10.cell? ⟨gb404, 0, none⟩ = some (.int .i64 0) := (blk_cell BK404.out 0).trans rfl
           have hcz21_1 : w10.cell? ⟨gb404, 1, none⟩ = some (.int .u64 0) := (blk_cell BK404.out 1).trans rfl
           have hcz21_2 : w10.cell? ⟨gb404, 2, none⟩ = some (.int .i64 0) := (blk_cell BK404.out 2).trans rfl
           have hfz21_0 := blk_frozen BK404.out 0
           have hfz21_1 := blk_frozen BK404.out 1
           have hfz21_2 := blk_frozen BK404.out 2
           have hcz22_0 : w10.cell? ⟨gb402, 0, none⟩ = some (.slice (some ad403) l0_0.length c0_0) := (blk_cell BK402.out 0).trans rfl
           have hcz22_1 : w10.cell? ⟨gb402, 1, none⟩ = some (.int .i64 a0_1) := (blk_cell BK402.out 1).trans rfl
           have hfz22_0 := blk_frozen BK402.out 0
           have hfz22_1 := blk_frozen BK402.out 1
           have p406 : 0 ≤ (x5_1 : Int) := of_decide_eq_true (by first | (with_reducible assumption) | assumption)
           have q406 : x5_1 < (l0_0.length : Int) := of_decide_eq_true (by first | (with_reducible assumption) | assumption)
           obtain ⟨ad406, e406, hx406_0, hx406_1, hx406_2⟩ := at_T43 HR0_0.out x5_1 p406 q406
           obtain rfl : ad403 = ad406 := (by injection e406)
           have hn406_0 : ad403.block ≠ gb404 := Nat.ne_of_lt (Nat.lt_of_lt_of_le (by have := World.block_lt_of_cell? _ _ hx406_0; first | rwa [add_block] at this | exact this) GW404.out)
           have hn406_1 : ad403.block ≠ gb404 := Nat.ne_of_lt (Nat.lt_of_lt_of_le (by have := World.block_lt_of_cell? _ _ hx406_0; first | rwa [add_block] at this | exact this) GW404.out)
           have hn406_2 : ad403.block ≠ gb404 := Nat.ne_of_lt (Nat.lt_of_lt_of_le (by have := World.block_lt_of_cell? _ _ hx406_0; first | rwa [add_block] at this | exact this) GW404.out)
           replace hx406_0 := (HB.out.cell (World.block_lt_of_cell? w _ hx406_0)).trans hx406_0
           replace hx406_1 := (HB.out.cell (World.block_lt_of_cell? w _ hx406_1)).trans hx406_1
           replace hx406_2 := (HB.out.cell (World.block_lt_of_cell? w _ hx406_2)).trans hx406_2
           replace hx406_0 := (cell_far (p := ⟨gb404, 0, none⟩) (by first | (rw [add_block]; exact hn406_0) | (show (Addr.add _ _).block ≠ _; rw [add_block]; exact hn406_0) | exact hn406_0) (.int .i64 ((rd_T43 l0_0 x7_1).f0))).trans hx406_0
           replace hx406_1 := (cell_far (p := ⟨gb404, 0, none⟩) (by first | (rw [add_block]; exact hn406_0) | (show (Addr.add _ _).block ≠ _; rw [add_block]; exact hn406_0) | exact hn406_0) (.int .i64 ((rd_T43 l0_0 x7_1).f0))).trans hx406_1
           replace hx406_2 := (cell_far (p := ⟨gb404, 0, none⟩) (by first | (rw [add_block]; exact hn406_0) | (show (Addr.add _ _).block ≠ _; rw [add_block]; exact hn406_0) | exact hn406_0) (.int .i64 ((rd_T43 l0_0 x7_1).f0))).trans hx406_2
           replace hx406_0 := (cell_far (p := ⟨gb404, 1, none⟩) (by first | (rw [add_block]; exact hn406_1) | (show (Addr.add _ _).block ≠ _; rw [add_block]; exact hn406_1) | exact hn406_1) (.int .u64 ((rd_T43 l0_0 x7_1).f1))).trans hx406_0
           replace hx406_1 := (cell_far (p := ⟨gb404, 1, none⟩) (by first | (rw [add_block]; exact hn406_1) | (show (Addr.add _ _).block ≠ _; rw [add_block]; exact hn406_1) | exact hn406_1) (.int .u64 ((rd_T43 l0_0 x7_1).f1))).trans hx406_1
           replace hx406_2 := (cell_far (p := ⟨gb404, 1, none⟩) (by first | (rw [add_block]; exact hn406_1) | (show (Addr.add _ _).block ≠ _; rw [add_block]; exact hn406_1) | exact hn406_1) (.int .u64 ((rd_T43 l0_0 x7_1).f1))).trans hx406_2
           replace hx406_0 := (cell_far (p := ⟨gb404, 2, none⟩) (by first | (rw [add_block]; exact hn406_2) | (show (Addr.add _ _).block ≠ _; rw [add_block]; exact hn406_2) | exact hn406_2) (.int .i64 ((rd_T43 l0_0 x7_1).f2))).trans hx406_0
           replace hx406_1 := (cell_far (p := ⟨gb404, 2, none⟩) (by first | (rw [add_block]; exact hn406_2) | (show (Addr.add _ _).block ≠ _; rw [add_block]; exact hn406_2) | exact hn406_2) (.int .i64 ((rd_T43 l0_0 x7_1).f2))).trans hx406_1
           replace hx406_2 := (cell_far (p := ⟨gb404, 2, none⟩) (by first | (rw [add_block]; exact hn406_2) | (show (Addr.add _ _).block ≠ _; rw [add_block]; exact hn406_2) | exact hn406_2) (.int .i64 ((rd_T43 l0_0 x7_1).f2))).trans hx406_2
           (try have hy406_0 := fun (n_ : Nat) => (show (((((w10.drewN n_).setCell ⟨gb404, 0, none⟩ (.int .i64 ((rd_T43 l0_0 x7_1).f0))).setCell ⟨gb404, 1, none⟩ (.int .u64 ((rd_T43 l0_0 x7_1).f1))).setCell ⟨gb404, 2, none⟩ (.int .i64 ((rd_T43 l0_0 x7_1).f2)))).cell? _ = some _ from hx406_0))
           (try have hy406_1 := fun (n_ : Nat) => (show (((((w10.drewN n_).setCell ⟨gb404, 0, none⟩ (.int .i64 ((rd_T43 l0_0 x7_1).f0))).setCell ⟨gb404, 1, none⟩ (.int .u64 ((rd_T43 l0_0 x7_1).f1))).setCell ⟨gb404, 2, none⟩ (.int .i64 ((rd_T43 l0_0 x7_1).f2)))).cell? _ = some _ from hx406_1))
           (try have hy406_2 := fun (n_ : Nat) => (show (((((w10.drewN n_).setCell ⟨gb404, 0, none⟩ (.int .i64 ((rd_T43 l0_0 x7_1).f0))).setCell ⟨gb404, 1, none⟩ (.int .u64 ((rd_T43 l0_0 x7_1).f1))).setCell ⟨gb404, 2, none⟩ (.int .i64 ((rd_T43 l0_0 x7_1).f2)))).cell? _ = some _ from hx406_2))
           clear hn406_0
           clear hn406_1
           clear hn406_2
           replace p406 := eq_true p406
           replace q406 := eq_true q406
           go_wp2
           repeat (go_quiet (fail); try go_wp2)
           go_meet
           case rel => exact ⟨_, (decide (((rd_T43 l0_0 x7_1).f2) > ((rd_T43 l0_0 x5_1).f2))), (by first | rfl | (simp; done) | (simp [*]; done)), H', ⟨by have := HK1.out; first | omega | exact Nat.le_refl _⟩, ⟨by (with_reducible repeat (first | refine blk_drewN ?_ _ | refine blk_drew ?_ | refine blk_alloc ?_ _)); refine blk_far ?_ NB402_404.out _; (with_reducible repeat (first | refine blk_drewN ?_ _ | refine blk_drew ?_ | refine blk_alloc ?_ _)); refine blk_far ?_ NB402_404.out _; (with_reducible repeat (first | refine blk_drewN ?_ _ | refine blk_drew ?_ | refine blk_alloc ?_ _)); refine blk_far ?_ NB402_404.out _; (with_reducible repeat (first | refine blk_drewN ?_ _ | refine blk_drew ?_ | refine blk_alloc ?_ _)); exact BK402.out⟩, ⟨by (with_reducible repeat (first | refine blk_drewN ?_ _ | refine blk_drew ?_ | refine blk_alloc ?_ _)); refine blk_put (cs := #[.int .i64 ((rd_T43 l0_0 x7_1).f0), .int .u64 ((rd_T43 l0_0 x7_1).f1), .int .i64 0]) ?_ 2 _ rfl; (with_reducible repeat (first | refine blk_drewN ?_ _ | refine blk_drew ?_ | refine blk_alloc ?_ _)); refine blk_put (cs := #[.int .i64 ((rd_T43 l0_0 x7_1).f0), .int .u64 0, .int .i64 0]) ?_ 1 _ rfl; (with_reducible repeat (first | refine blk_drewN ?_ _ | refine blk_drew ?_ | refine blk_alloc ?_ _)); refine blk_put (cs := #[.int .i64 0, .int .u64 0, .int .i64 0]) ?_ 0 _ rfl; (with_reducible repeat (first | refine blk_drewN ?_ _ | refine blk_drew ?_ | refine blk_alloc ?_ _)); exact BK404.out⟩, ⟨by repeat (first | (with_reducible first | exact HB.out | apply below_alloc | apply pw_below_drewN | apply below_drew1 | refine below_set ?_ GE402.out | refine below_set ?_ GE404.out) | exact HB.out)⟩⟩
          ·rw [if_neg c19] at H
           exact absurd H (by simp)
         ·rw [if_neg c18] at H
          exact absurd H (by simp)
       ·rw [if_neg c13] at H
        have c13b0 : decide (a0_1 ≤ ((rd_T43 l0_0 x7_1).f2)) = false := decide_eq_false c13
        clear c13
        (first | rw [c13b0] | (simp only [i64_w, i32_w]; rw [c13b0]) | skip)
        have H' := Aside0.mk H
        clear H
        have hnb23 := NB404_402.out
        have hnc23 := NB402_404.out
        have hcz24_0 : w10.cell? ⟨gb404, 0, none⟩ = some (.int .i64 0) := (blk_cell BK404.out 0).trans rfl
        have hcz24_1 : w10.cell? ⟨gb404, 1, none⟩ = some (.int .u64 0) := (blk_cell BK404.out 1).trans rfl
        have hcz24_2 : w10.cell? ⟨gb404, 2, none⟩ = some (.int .i64 0) := (blk_cell BK404.out 2).trans rfl
        have hfz24_0 := blk_frozen BK404.out 0
        have hfz24_1 := blk_frozen BK404.out 1
        have hfz24_2 := blk_frozen BK404.out 2
        have hcz25_0 : w10.cell? ⟨gb402, 0, none⟩ = some (.slice (some ad403) l0_0.length c0_0) := (blk_cell BK402.out 0).trans rfl
        have hcz25_1 : w10.cell? ⟨gb402, 1, none⟩ = some (.int .i64 a0_1) := (blk_cell BK402.out 1).trans rfl
        have hfz25_0 := blk_frozen BK402.out 0
        have hfz25_1 := blk_frozen BK402.out 1
        go_wp2
        repeat (go_quiet (fail); try go_wp2)
        go_meet
        case rel => exact ⟨_, (false), (by first | rfl | (simp; done) | (simp [*]; done)), H', ⟨by have := HK1.out; first | omega | exact Nat.le_refl _⟩, ⟨by (with_reducible repeat (first | refine blk_drewN ?_ _ | refine blk_drew ?_ | refine blk_alloc ?_ _)); refine blk_far ?_ NB402_404.out _; (with_reducible repeat (first | refine blk_drewN ?_ _ | refine blk_drew ?_ | refine blk_alloc ?_ _)); refine blk_far ?_ NB402_404.out _; (with_reducible repeat (first | refine blk_drewN ?_ _ | refine blk_drew ?_ | refine blk_alloc ?_ _)); refine blk_far ?_ NB402_404.out _; (with_reducible repeat (first | refine blk_drewN ?_ _ | refine blk_drew ?_ | refine blk_alloc ?_ _)); exact BK402.out⟩, ⟨by (with_reducible repeat (first | refine blk_drewN ?_ _ | refine blk_drew ?_ | refine blk_alloc ?_ _)); refine blk_put (cs := #[.int .i64 ((rd_T43 l0_0 x7_1).f0), .int .u64 ((rd_T43 l0_0 x7_1).f1), .int .i64 0]) ?_ 2 _ rfl; (with_reducible repeat (first | refine blk_drewN ?_ _ | refine blk_drew ?_ | refine blk_alloc ?_ _)); refine blk_put (cs := #[.int .i64 ((rd_T43 l0_0 x7_1).f0), .int .u64 0, .int .i64 0]) ?_ 1 _ rfl; (with_reducible repeat (first | refine blk_drewN ?_ _ | refine blk_drew ?_ | refine blk_alloc ?_ _)); refine blk_put (cs := #[.int .i64 0, .int .u64 0, .int .i64 0]) ?_ 0 _ rfl; (with_reducible repeat (first | refine blk_drewN ?_ _ | refine blk_drew ?_ | refine blk_alloc ?_ _)); exact BK404.out⟩, ⟨by repeat (first | (with_reducible first | exact HB.out | apply below_alloc | apply pw_below_drewN | apply below_drew1 | refine below_set ?_ GE402.out | refine below_set ?_ GE404.out) | exact HB.out)⟩⟩
      case rest =>
       clear HC8
       try clear c1
       try clear c2
       try clear p2
       try clear c4
       try clear c4b0
       try clear p4
       try clear q4
       try clear hx4
       try clear c5
       try clear c5b0
       try clear p6
       try clear c7
       try clear c11
       try clear c13
       try clear c13b0
       try clear c14
       try clear c14b0
       try clear c15
       try clear c18
       try clear c18b0
       try clear c19
       try clear c19b0
       try clear c20
       try clear c23
       try clear hcz12_0
       try clear hcz12_1
       try clear hcz12_2
       try clear hcz16_0
       try clear hcz16_1
       try clear hcz16_2
       try clear hcz17_0
       try clear hcz17_1
       try clear hcz21_0
       try clear hcz21_1
       try clear hcz21_2
       try clear hcz22_0
       try clear hcz22_1
       try clear hcz24_0
       try clear hcz24_1
       try clear hcz24_2
       try clear hcz25_0
       try clear hcz25_1
       try clear hcz9_0
       try clear hcz9_1
       try clear hfz12_0
       try clear hfz12_1
       try clear hfz12_2
       try clear hfz16_0
       try clear hfz16_1
       try clear hfz16_2
       try clear hfz17_0
       try clear hfz17_1
       try clear hfz21_0
       try clear hfz21_1
       try clear hfz21_2
       try clear hfz22_0
       try clear hfz22_1
       try clear hfz24_0
       try clear hfz24_1
       try clear hfz24_2
       try clear hfz25_0
       try clear hfz25_1
       try clear hfz9_0
       try clear hfz9_1
       try clear hx403_0
       try clear hx403_1
       try clear hx403_2
       try clear hx406_0
       try clear hx406_1
       try clear hx406_2
       try clear p2
       try clear p403
       try clear p406
       try clear q403
       try clear q406
       obtain ⟨kq, x45_7, rfl, HA, HJ7, BK402, BK404, HB⟩ := hcut
       cases kq with
       | zero => exact absurd HA.out (by simp [heronryref21_first.j1])
       | succ kj7 =>
        have H := HA.out
        clear HA
        simp only [heronryref21_first.j1] at H
        have HC26 := Aside0.mk H
        clear H
        go_upto_if 45 with (fail)
        repeat (go_quiet (fail); go_upto_if 45 with (fail))
        go_cut [5] (fun v5 wc => ∃ (kq : Nat) (x5_25 : Int), v5 = .int .i64 x5_25 ∧ Aside0 (heronryref21_first.j2 kq l1 x5_25 x6_1 x7_1 l0_0 a0_1 ((rd_T43 l0_0 x7_1).f0) ((rd_T43 l0_0 x7_1).f1) ((rd_T43 l0_0 x7_1).f2) = some r) ∧ Aside0 (kq ≤ kj7) ∧ Aside0 (wc.heap[gb402]? = some (.cells #[(.slice (some ad403) l0_0.length c0_0), .int .i64 a0_1] 39 (0, 0))) ∧ Aside0 (wc.heap[gb404]? = some (.cells #[.int .i64 ((rd_T43 l0_0 x7_1).f0), .int .u64 ((rd_T43 l0_0 x7_1).f1), .int .i64 ((rd_T43 l0_0 x7_1).f2)] 43 (0, 0))) ∧ Aside0 (Below w.heap.size w wc))
        case first =>
         have H := HC26.out
         clear HC26
         by_cases c27 : x45_7 = true
         ·subst c27
          have H1 : (heronryref21_first.j2 kj7 l1 x7_1 x6_1 x7_1 l0_0 a0_1 ((rd_T43 l0_0 x7_1).f0) ((rd_T43 l0_0 x7_1).f1) ((rd_T43 l0_0 x7_1).f2)) = some r := by rw [if_pos rfl] at H; exact H
          clear H
          have H := H1
          clear H1
          have H' := Aside0.mk H
          clear H
          go_wp2
          repeat (go_quiet (fail); try go_wp2)
          go_meet
          case rel => exact ⟨_, (x7_1), (by first | rfl | (simp; done) | (simp [*]; done)), H', ⟨by have := HK1.out; have := HJ7.out; first | omega | exact Nat.le_refl _⟩, ⟨by (with_reducible repeat (first | refine blk_drewN ?_ _ | refine blk_drew ?_ | refine blk_alloc ?_ _)); exact BK402.out⟩, ⟨by (with_reducible repeat (first | refine blk_drewN ?_ _ | refine blk_drew ?_ | refine blk_alloc ?_ _)); exact BK404.out⟩, ⟨by repeat (first | (with_reducible first | exact HB.out | apply below_alloc | apply pw_below_drewN | apply below_drew1 | refine below_set ?_ GE402.out | refine below_set ?_ GE404.out) | exact HB.out)⟩⟩
         ·replace c27 := Bool.eq_false_iff.mpr c27
          subst c27
          have H1 : (heronryref21_first.j2 kj7 l1 x5_1 x6_1 x7_1 l0_0 a0_1 ((rd_T43 l0_0 x7_1).f0) ((rd_T43 l0_0 x7_1).f1) ((rd_T43 l0_0 x7_1).f2)) = some r := by rw [if_neg (show ¬ (false = true) by decide)] at H; exact H
          clear H
          have H := H1
          clear H1
          have H' := Aside0.mk H
          clear H
          go_wp2
          repeat (go_quiet (fail); try go_wp2)
          go_meet
          case rel => exact ⟨_, (x5_1), (by first | rfl | (simp; done) | (simp [*]; done)), H', ⟨by have := HK1.out; have := HJ7.out; first | omega | exact Nat.le_refl _⟩, ⟨by (with_reducible repeat (first | refine blk_drewN ?_ _ | refine blk_drew ?_ | refine blk_alloc ?_ _)); exact BK402.out⟩, ⟨by (with_reducible repeat (first | refine blk_drewN ?_ _ | refine blk_drew ?_ | refine blk_alloc ?_ _)); exact BK404.out⟩, ⟨by repeat (first | (with_reducible first | exact HB.out | apply below_alloc | apply pw_below_drewN | apply below_drew1 | refine below_set ?_ GE402.out | refine below_set ?_ GE404.out) | exact HB.out)⟩⟩
        case rest =>
         clear HC26
         try clear c1
         try clear c2
         try clear p2
         try clear c4
         try clear c4b0
         try clear p4
         try clear q4
         try clear hx4
         try clear c5
         try clear c5b0
         try clear p6
         try clear c7
         try clear c11
         try clear c13
         try clear c13b0
         try clear c14
         try clear c14b0
         try clear c15
         try clear c18
         try clear c18b0
         try clear c19
         try clear c19b0
         try clear c20
         try clear c23
         try clear c27
         try clear hcz12_0
         try clear hcz12_1
         try clear hcz12_2
         try clear hcz16_0
         try clear hcz16_1
         try clear hcz16_2
         try clear hcz17_0
         try clear hcz17_1
         try clear hcz21_0
         try clear hcz21_1
         try clear hcz21_2
         try clear hcz22_0
         try clear hcz22_1
         try clear hcz24_0
         try clear hcz24_1
         try clear hcz24_2
         try clear hcz25_0
         try clear hcz25_1
         try clear hcz9_0
         try clear hcz9_1
         try clear hfz12_0
         try clear hfz12_1
         try clear hfz12_2
         try clear hfz16_0
         try clear hfz16_1
         try clear hfz16_2
         try clear hfz17_0
         try clear hfz17_1
         try clear hfz21_0
         try clear hfz21_1
         try clear hfz21_2
         try clear hfz22_0
         try clear hfz22_1
         try clear hfz24_0
         try clear hfz24_1
         try clear hfz24_2
         try clear hfz25_0
         try clear hfz25_1
         try clear hfz9_0
         try clear hfz9_1
         try clear hx403_0
         try clear hx403_1
         try clear hx403_2
         try clear hx406_0
         try clear hx406_1
         try clear hx406_2
         try clear p2
         try clear p4
         try clear p403
         try clear p406
         try clear p6
         try clear q4
         try clear q403
         try clear q406
         obtain ⟨kq, x5_25, rfl, HA, HJ25, BK402, BK404, HB⟩ := hcut
         cases kq with
         | zero => exact absurd HA.out (by simp [heronryref21_first.j2])
         | succ kj25 =>
          have H := HA.out
          clear HA
          simp only [heronryref21_first.j2] at H
          by_cases c28 : x6_1 < 0
          ·rw [if_pos c28] at H
           have c28b0 : decide (x6_1 < 0) = true := decide_eq_true c28
           clear c28
           have H' := Aside0.mk H
           clear H
           go_wp2
           repeat (go_quiet (fail); try go_wp2)
           go_roundg kj25
           case measure => have := HK1.out; have := HJ7.out; have := HJ25.out; omega
           case rel => exact ⟨(x5_25), (x7_1), (wrap64 (x7_1 + 1)), (by first | rfl | (simp; done) | (simp [*]; done)), (by first | rfl | (simp; done) | (simp [*]; done)), (by first | rfl | (simp; done) | (simp [*]; done)), H', ⟨by have := HK1.out; have := HJ7.out; have := HJ25.out; omega⟩, ⟨by (with_reducible repeat (first | refine blk_drewN ?_ _ | refine blk_drew ?_ | refine blk_alloc ?_ _)); exact BK402.out⟩, ⟨by repeat (first | (with_reducible first | exact HB.out | apply below_alloc | apply pw_below_drewN | apply below_drew1 | refine below_set ?_ GE402.out | refine below_set ?_ GE404.out) | exact HB.out)⟩⟩
          ·rw [if_neg c28] at H
           have c28b0 : decide (x6_1 < 0) = false := decide_eq_false c28
           clear c28
           replace H := Option.bind_eq_some_iff.mp H
           obtain ⟨t407, A290, H⟩ := H
           replace H : (if 0 ≤ x6_1 then (if x6_1 < (l0_0.length : Int) then ((heronryref02_Key.f ((rd_T43 l0_0 x6_1).f1)).bind fun t409 => (if t407 > t409 then (heronryref21_first.l0 kj25 l1 x5_25 x7_1 (wrap64 (x7_1 + 1)) l0_0 a0_1) else (heronryref21_first.l0 kj25 l1 x5_25 x6_1 (wrap64 (x7_1 + 1)) l0_0 a0_1))) else (none)) else (none)) = some r := H
           have A29 := Aside0.mk A290
           clear A290
           by_cases c30 : 0 ≤ x6_1
           ·rw [if_pos c30] at H
            have c30b0 : decide (0 ≤ x6_1) = true := decide_eq_true c30
            clear c30
            by_cases c31 : x6_1 < (l0_0.length : Int)
            ·rw [if_pos c31] at H
             have c31b0 : decide (x6_1 < (l0_0.length : Int)) = true := decide_eq_true c31
             clear c31
             replace H := Option.bind_eq_some_iff.mp H
             obtain ⟨t409, A320, H⟩ := H
             replace H : (if t407 > t409 then (heronryref21_first.l0 kj25 l1 x5_25 x7_1 (wrap64 (x7_1 + 1)) l0_0 a0_1) else (heronryref21_first.l0 kj25 l1 x5_25 x6_1 (wrap64 (x7_1 + 1)) l0_0 a0_1)) = some r := H
             have A32 := Aside0.mk A320
             clear A320
             by_cases c33 : t407 > t409
             ·rw [if_pos c33] at H
              have c33b0 : decide (t409 < t407) = true := decide_eq_true c33
              clear c33
              have H' := Aside0.mk H
              clear H
              have hnb34 := NB404_402.out
              have hnc34 := NB402_404.out
              have hcz35_0 : wc.cell? ⟨gb404, 0, none⟩ = some (.int .i64 ((rd_T43 l0_0 x7_1).f0)) := (blk_cell BK404.out 0).trans rfl
              have hcz35_1 : wc.cell? ⟨gb404, 1, none⟩ = some (.int .u64 ((rd_T43 l0_0 x7_1).f1)) := (blk_cell BK404.out 1).trans rfl
              have hcz35_2 : wc.cell? ⟨gb404, 2, none⟩ = some (.int .i64 ((rd_T43 l0_0 x7_1).f2)) := (blk_cell BK404.out 2).trans rfl
              have hfz35_0 := blk_frozen BK404.out 0
              have hfz35_1 := blk_frozen BK404.out 1
              have hfz35_2 := blk_frozen BK404.out 2
              go_wp2_with (first | (go_at_call 54; (with_reducible refine (heronryref02_Key.calls ((rd_T43 l0_0 x7_1).f1) t407 _ A29.out).mono ?_); rintro e w' ⟨rfl, ⟨nd, rfl⟩⟩; (try first | exact ⟨rfl, _, World.drewN_drewN _ _ _⟩ | exact ⟨rfl, _, Eq.trans (World.drewN_drewN _ _ _) (congrArg (World.drewN _) (Nat.add_assoc _ _ _))⟩); have hcz36_0 : wc.cell? ⟨gb402, 0, none⟩ = some (.slice (some ad403) l0_0.length c0_0) := (blk_cell BK402.out 0).trans rfl; have hcz36_1 : wc.cell? ⟨gb402, 1, none⟩ = some (.int .i64 a0_1) := (blk_cell BK402.out 1).trans rfl; have hfz36_0 := blk_frozen BK402.out 0; have hfz36_1 := blk_frozen BK402.out 1; have p408 : 0 ≤ (x6_1 : Int) := of_decide_eq_true (by first | (with_reducible assumption) | assumption); have q408 : x6_1 < (l0_0.length : Int) := of_decide_eq_true (by first | (with_reducible assumption) | assumption); obtain ⟨ad408, e408, hx408_0, hx408_1, hx408_2⟩ := at_T43 HR0_0.out x6_1 p408 q408; obtain rfl : ad403 = ad408 := (by injection e408); replace hx408_0 := (HB.out.cell (World.block_lt_of_cell? w _ hx408_0)).trans hx408_0; replace hx408_1 := (HB.out.cell (World.block_lt_of_cell? w _ hx408_1)).trans hx408_1; replace hx408_2 := (HB.out.cell (World.block_lt_of_cell? w _ hx408_2)).trans hx408_2; replace p408 := eq_true p408; replace q408 := eq_true q408) | (go_at_call 54; (with_reducible refine (heronryref02_Key.calls ((rd_T43 l0_0 x6_1).f1) t409 _ A32.out).mono ?_); rintro e w' ⟨rfl, ⟨nd, rfl⟩⟩; (try first | exact ⟨rfl, _, World.drewN_drewN _ _ _⟩ | exact ⟨rfl, _, Eq.trans (World.drewN_drewN _ _ _) (congrArg (World.drewN _) (Nat.add_assoc _ _ _))⟩)))
              repeat (go_quiet (first | (go_at_call 54; (with_reducible refine (heronryref02_Key.calls ((rd_T43 l0_0 x7_1).f1) t407 _ A29.out).mono ?_); rintro e w' ⟨rfl, ⟨nd, rfl⟩⟩; (try first | exact ⟨rfl, _, World.drewN_drewN _ _ _⟩ | exact ⟨rfl, _, Eq.trans (World.drewN_drewN _ _ _) (congrArg (World.drewN _) (Nat.add_assoc _ _ _))⟩); have hcz36_0 : wc.cell? ⟨gb402, 0, none⟩ = some (.slice (some ad403) l0_0.length c0_0) := (blk_cell BK402.out 0).trans rfl; have hcz36_1 : wc.cell? ⟨gb402, 1, none⟩ = some (.int .i64 a0_1) := (blk_cell BK402.out 1).trans rfl; have hfz36_0 := blk_frozen BK402.out 0; have hfz36_1 := blk_frozen BK402.out 1; have p408 : 0 ≤ (x6_1 : Int) := of_decide_eq_true (by first | (with_reducible assumption) | assumption); have q408 : x6_1 < (l0_0.length : Int) := of_decide_eq_true (by first | (with_reducible assumption) | assumption); obtain ⟨ad408, e408, hx408_0, hx408_1, hx408_2⟩ := at_T43 HR0_0.out x6_1 p408 q408; obtain rfl : ad403 = ad408 := (by injection e408); replace hx408_0 := (HB.out.cell (World.block_lt_of_cell? w _ hx408_0)).trans hx408_0; replace hx408_1 := (HB.out.cell (World.block_lt_of_cell? w _ hx408_1)).trans hx408_1; replace hx408_2 := (HB.out.cell (World.block_lt_of_cell? w _ hx408_2)).trans hx408_2; replace p408 := eq_true p408; replace q408 := eq_true q408) | (go_at_call 54; (with_reducible refine (heronryref02_Key.calls ((rd_T43 l0_0 x6_1).f1) t409 _ A32.out).mono ?_); rintro e w' ⟨rfl, ⟨nd, rfl⟩⟩; (try first | exact ⟨rfl, _, World.drewN_drewN _ _ _⟩ | exact ⟨rfl, _, Eq.trans (World.drewN_drewN _ _ _) (congrArg (World.drewN _) (Nat.add_assoc _ _ _))⟩))); try go_wp2_with (first | (go_at_call 54; (with_reducible refine (heronryref02_Key.calls ((rd_T43 l0_0 x7_1).f1) t407 _ A29.out).mono ?_); rintro e w' ⟨rfl, ⟨nd, rfl⟩⟩; (try first | exact ⟨rfl, _, World.drewN_drewN _ _ _⟩ | exact ⟨rfl, _, Eq.trans (World.drewN_drewN _ _ _) (congrArg (World.drewN _) (Nat.add_assoc _ _ _))⟩); have hcz36_0 : wc.cell? ⟨gb402, 0, none⟩ = some (.slice (some ad403) l0_0.length c0_0) := (blk_cell BK402.out 0).trans rfl; have hcz36_1 : wc.cell? ⟨gb402, 1, none⟩ = some (.int .i64 a0_1) := (blk_cell BK402.out 1).trans rfl; have hfz36_0 := blk_frozen BK402.out 0; have hfz36_1 := blk_frozen BK402.out 1; have p408 : 0 ≤ (x6_1 : Int) := of_decide_eq_true (by first | (with_reducible assumption) | assumption); have q408 : x6_1 < (l0_0.length : Int) := of_decide_eq_true (by first | (with_reducible assumption) | assumption); obtain ⟨ad408, e408, hx408_0, hx408_1, hx408_2⟩ := at_T43 HR0_0.out x6_1 p408 q408; obtain rfl : ad403 = ad408 := (by injection e408); replace hx408_0 := (HB.out.cell (World.block_lt_of_cell? w _ hx408_0)).trans hx408_0; replace hx408_1 := (HB.out.cell (World.block_lt_of_cell? w _ hx408_1)).trans hx408_1; replace hx408_2 := (HB.out.cell (World.block_lt_of_cell? w _ hx408_2)).trans hx408_2; replace p408 := eq_true p408; replace q408 := eq_true q408) | (go_at_call 54; (with_reducible refine (heronryref02_Key.calls ((rd_T43 l0_0 x6_1).f1) t409 _ A32.out).mono ?_); rintro e w' ⟨rfl, ⟨nd, rfl⟩⟩; (try first | exact ⟨rfl, _, World.drewN_drewN _ _ _⟩ | exact ⟨rfl, _, Eq.trans (World.drewN_drewN _ _ _) (congrArg (World.drewN _) (Nat.add_assoc _ _ _))⟩))))
              go_roundg kj25
              case measure => have := HK1.out; have := HJ7.out; have := HJ25.out; omega
              case rel => exact ⟨(x5_25), (x7_1), (wrap64 (x7_1 + 1)), (by first | rfl | (simp; done) | (simp [*]; done)), (by first | rfl | (simp; done) | (simp [*]; done)), (by first | rfl | (simp; done) | (simp [*]; done)), H', ⟨by have := HK1.out; have := HJ7.out; have := HJ25.out; omega⟩, ⟨by (with_reducible repeat (first | refine blk_drewN ?_ _ | refine blk_drew ?_ | refine blk_alloc ?_ _)); exact BK402.out⟩, ⟨by repeat (first | (with_reducible first | exact HB.out | apply below_alloc | apply pw_below_drewN | apply below_drew1 | refine below_set ?_ GE402.out | refine below_set ?_ GE404.out) | exact HB.out)⟩⟩
             ·rw [if_neg c33] at H
              have c33b0 : decide (t409 < t407) = false := decide_eq_false c33
              clear c33
              have H' := Aside0.mk H
              clear H
              have hnb37 := NB404_402.out
              have hnc37 := NB402_404.out
              have hcz38_0 : wc.cell? ⟨gb404, 0, none⟩ = some (.int .i64 ((rd_T43 l0_0 x7_1).f0)) := (blk_cell BK404.out 0).trans rfl
              have hcz38_1 : wc.cell? ⟨gb404, 1, none⟩ = some (.int .u64 ((rd_T43 l0_0 x7_1).f1)) := (blk_cell BK404.out 1).trans rfl
              have hcz38_2 : wc.cell? ⟨gb404, 2, none⟩ = some (.int .i64 ((rd_T43 l0_0 x7_1).f2)) := (blk_cell BK404.out 2).trans rfl
              have hfz38_0 := blk_frozen BK404.out 0
              have hfz38_1 := blk_frozen BK404.out 1
              have hfz38_2 := blk_frozen BK404.out 2
              go_wp2_with (first | (go_at_call 54; (with_reducible refine (heronryref02_Key.calls ((rd_T43 l0_0 x7_1).f1) t407 _ A29.out).mono ?_); rintro e w' ⟨rfl, ⟨nd, rfl⟩⟩; (try first | exact ⟨rfl, _, World.drewN_drewN _ _ _⟩ | exact ⟨rfl, _, Eq.trans (World.drewN_drewN _ _ _) (congrArg (World.drewN _) (Nat.add_assoc _ _ _))⟩); have hcz39_0 : wc.cell? ⟨gb402, 0, none⟩ = some (.slice (some ad403) l0_0.length c0_0) := (blk_cell BK402.out 0).trans rfl; have hcz39_1 : wc.cell? ⟨gb402, 1, none⟩ = some (.int .i64 a0_1) := (blk_cell BK402.out 1).trans rfl; have hfz39_0 := blk_frozen BK402.out 0; have hfz39_1 := blk_frozen BK402.out 1; have p408 : 0 ≤ (x6_1 : Int) := of_decide_eq_true (by first | (with_reducible assumption) | assumption); have q408 : x6_1 < (l0_0.length : Int) := of_decide_eq_true (by first | (with_reducible assumption) | assumption); obtain ⟨ad408, e408, hx408_0, hx408_1, hx408_2⟩ := at_T43 HR0_0.out x6_1 p408 q408; obtain rfl : ad403 = ad408 := (by injection e408); replace hx408_0 := (HB.out.cell (World.block_lt_of_cell? w _ hx408_0)).trans hx408_0; replace hx408_1 := (HB.out.cell (World.block_lt_of_cell? w _ hx408_1)).trans hx408_1; replace hx408_2 := (HB.out.cell (World.block_lt_of_cell? w _ hx408_2)).trans hx408_2; replace p408 := eq_true p408; replace q408 := eq_true q408) | (go_at_call 54; (with_reducible refine (heronryref02_Key.calls ((rd_T43 l0_0 x6_1).f1) t409 _ A32.out).mono ?_); rintro e w' ⟨rfl, ⟨nd, rfl⟩⟩; (try first | exact ⟨rfl, _, World.drewN_drewN _ _ _⟩ | exact ⟨rfl, _, Eq.trans (World.drewN_drewN _ _ _) (congrArg (World.drewN _) (Nat.add_assoc _ _ _))⟩)))
              repeat (go_quiet (first | (go_at_call 54; (with_reducible refine (heronryref02_Key.calls ((rd_T43 l0_0 x7_1).f1) t407 _ A29.out).mono ?_); rintro e w' ⟨rfl, ⟨nd, rfl⟩⟩; (try first | exact ⟨rfl, _, World.drewN_drewN _ _ _⟩ | exact ⟨rfl, _, Eq.trans (World.drewN_drewN _ _ _) (congrArg (World.drewN _) (Nat.add_assoc _ _ _))⟩); have hcz39_0 : wc.cell? ⟨gb402, 0, none⟩ = some (.slice (some ad403) l0_0.length c0_0) := (blk_cell BK402.out 0).trans rfl; have hcz39_1 : wc.cell? ⟨gb402, 1, none⟩ = some (.int .i64 a0_1) := (blk_cell BK402.out 1).trans rfl; have hfz39_0 := blk_frozen BK402.out 0; have hfz39_1 := blk_frozen BK402.out 1; have p408 : 0 ≤ (x6_1 : Int) := of_decide_eq_true (by first | (with_reducible assumption) | assumption); have q408 : x6_1 < (l0_0.length : Int) := of_decide_eq_true (by first | (with_reducible assumption) | assumption); obtain ⟨ad408, e408, hx408_0, hx408_1, hx408_2⟩ := at_T43 HR0_0.out x6_1 p408 q408; obtain rfl : ad403 = ad408 := (by injection e408); replace hx408_0 := (HB.out.cell (World.block_lt_of_cell? w _ hx408_0)).trans hx408_0; replace hx408_1 := (HB.out.cell (World.block_lt_of_cell? w _ hx408_1)).trans hx408_1; replace hx408_2 := (HB.out.cell (World.block_lt_of_cell? w _ hx408_2)).trans hx408_2; replace p408 := eq_true p408; replace q408 := eq_true q408) | (go_at_call 54; (with_reducible refine (heronryref02_Key.calls ((rd_T43 l0_0 x6_1).f1) t409 _ A32.out).mono ?_); rintro e w' ⟨rfl, ⟨nd, rfl⟩⟩; (try first | exact ⟨rfl, _, World.drewN_drewN _ _ _⟩ | exact ⟨rfl, _, Eq.trans (World.drewN_drewN _ _ _) (congrArg (World.drewN _) (Nat.add_assoc _ _ _))⟩))); try go_wp2_with (first | (go_at_call 54; (with_reducible refine (heronryref02_Key.calls ((rd_T43 l0_0 x7_1).f1) t407 _ A29.out).mono ?_); rintro e w' ⟨rfl, ⟨nd, rfl⟩⟩; (try first | exact ⟨rfl, _, World.drewN_drewN _ _ _⟩ | exact ⟨rfl, _, Eq.trans (World.drewN_drewN _ _ _) (congrArg (World.drewN _) (Nat.add_assoc _ _ _))⟩); have hcz39_0 : wc.cell? ⟨gb402, 0, none⟩ = some (.slice (some ad403) l0_0.length c0_0) := (blk_cell BK402.out 0).trans rfl; have hcz39_1 : wc.cell? ⟨gb402, 1, none⟩ = some (.int .i64 a0_1) := (blk_cell BK402.out 1).trans rfl; have hfz39_0 := blk_frozen BK402.out 0; have hfz39_1 := blk_frozen BK402.out 1; have p408 : 0 ≤ (x6_1 : Int) := of_decide_eq_true (by first | (with_reducible assumption) | assumption); have q408 : x6_1 < (l0_0.length : Int) := of_decide_eq_true (by first | (with_reducible assumption) | assumption); obtain ⟨ad408, e408, hx408_0, hx408_1, hx408_2⟩ := at_T43 HR0_0.out x6_1 p408 q408; obtain rfl : ad403 = ad408 := (by injection e408); replace hx408_0 := (HB.out.cell (World.block_lt_of_cell? w _ hx408_0)).trans hx408_0; replace hx408_1 := (HB.out.cell (World.block_lt_of_cell? w _ hx408_1)).trans hx408_1; replace hx408_2 := (HB.out.cell (World.block_lt_of_cell? w _ hx408_2)).trans hx408_2; replace p408 := eq_true p408; replace q408 := eq_true q408) | (go_at_call 54; (with_reducible refine (heronryref02_Key.calls ((rd_T43 l0_0 x6_1).f1) t409 _ A32.out).mono ?_); rintro e w' ⟨rfl, ⟨nd, rfl⟩⟩; (try first | exact ⟨rfl, _, World.drewN_drewN _ _ _⟩ | exact ⟨rfl, _, Eq.trans (World.drewN_drewN _ _ _) (congrArg (World.drewN _) (Nat.add_assoc _ _ _))⟩))))
              go_roundg kj25
              case measure => have := HK1.out; have := HJ7.out; have := HJ25.out; omega
              case rel => exact ⟨(x5_25), (x6_1), (wrap64 (x7_1 + 1)), (by first | rfl | (simp; done) | (simp [*]; done)), (by first | rfl | (simp; done) | (simp [*]; done)), (by first | rfl | (simp; done) | (simp [*]; done)), H', ⟨by have := HK1.out; have := HJ7.out; have := HJ25.out; omega⟩, ⟨by (with_reducible repeat (first | refine blk_drewN ?_ _ | refine blk_drew ?_ | refine blk_alloc ?_ _)); exact BK402.out⟩, ⟨by repeat (first | (with_reducible first | exact HB.out | apply below_alloc | apply pw_below_drewN | apply below_drew1 | refine below_set ?_ GE402.out | refine below_set ?_ GE404.out) | exact HB.out)⟩⟩
            ·rw [if_neg c31] at H
             exact absurd H (by simp)
           ·rw [if_neg c30] at H
            exact absurd H (by simp)
     ·replace c7 := Bool.eq_false_iff.mpr c7
      subst c7
      have H1 : (heronryref21_first.l0 k1 l1 x5_1 x6_1 (wrap64 (x7_1 + 1)) l0_0 a0_1) = some r := by rw [if_neg (show ¬ (false = true) by decide)] at H; exact H
      clear H
      have H := H1
      clear H1
      have H' := Aside0.mk H
      clear H
      have hcz40_0 : wr.cell? ⟨gb402, 0, none⟩ = some (.slice A0_0 l0_0.length c0_0) := (blk_cell BK402.out 0).trans rfl
      have hcz40_1 : wr.cell? ⟨gb402, 1, none⟩ = some (.int .i64 a0_1) := (blk_cell BK402.out 1).trans rfl
      have hfz40_0 := blk_frozen BK402.out 0
      have hfz40_1 := blk_frozen BK402.out 1
      have p403 : 0 ≤ (x7_1 : Int) := of_decide_eq_true (by first | (with_reducible assumption) | assumption)
      have q403 : x7_1 < (l0_0.length : Int) := of_decide_eq_true (by first | (with_reducible assumption) | assumption)
      obtain ⟨ad403, e403, hx403_0, hx403_1, hx403_2⟩ := at_T43 HR0_0.out x7_1 p403 q403
      cases e403
      replace hx403_0 := (HB.out.cell (World.block_lt_of_cell? w _ hx403_0)).trans hx403_0
      replace hx403_1 := (HB.out.cell (World.block_lt_of_cell? w _ hx403_1)).trans hx403_1
      replace hx403_2 := (HB.out.cell (World.block_lt_of_cell? w _ hx403_2)).trans hx403_2
      replace p403 := eq_true p403
      replace q403 := eq_true q403
      go_wp2_with (first | ((with_reducible refine gate_dst (N := 8) rfl ?_); refine box_event ?hg (N := 8) ?hd (cs := #[.int .i64 0, .int .u64 0, .int .i64 0]) (t := 43) ?hr ?_; (case hd => rfl); (case hg => rfl); (case hr => first | (go_simp; done) | (go_simp; rfl)); intro gb404 hg w41 hbox hb; have n0_ := Aside0.mk (blk_below (g := gb402) (o := .cells #[.slice (some ad403) l0_0.length c0_0, .int .i64 a0_1] 39 (0, 0)) (by (with_reducible repeat (first | refine blk_drewN ?_ _ | refine blk_drew ?_ | refine blk_alloc ?_ _)); exact BK402.out) hb); have n1_ := Aside0.mk (below_step (by repeat (first | (with_reducible first | exact HB.out | apply below_alloc | apply pw_below_drewN | apply below_drew1 | refine below_set ?_ GE402.out) | exact HB.out)) hb); have n2_ := Aside0.mk (hbox); have n3_ := Aside0.mk ((by rw [hg]; exact (below_size (by repeat (first | (with_reducible first | exact HB.out | apply below_alloc | apply pw_below_drewN | apply below_drew1 | refine below_set ?_ GE402.out) | exact HB.out))) : w.heap.size ≤ gb404)); have n4_ := Aside0.mk ((by rw [hg]; exact (below_size (by repeat (first | (with_reducible first | exact HB.out | apply below_alloc | apply pw_below_drewN | apply below_drew1 | refine below_set ?_ GE402.out) | exact HB.out))) : w.heap.size ≤ gb404)); have n5_ := Aside0.mk ((by rw [hg]; exact Nat.ne_of_lt (blk_lt (g := gb402) (o := .cells #[.slice (some ad403) l0_0.length c0_0, .int .i64 a0_1] 39 (0, 0)) (by (with_reducible repeat (first | refine blk_drewN ?_ _ | refine blk_drew ?_ | refine blk_alloc ?_ _)); exact BK402.out)) : gb402 ≠ gb404)); have n6_ := Aside0.mk ((by rw [hg]; exact Nat.ne_of_gt (blk_lt (g := gb402) (o := .cells #[.slice (some ad403) l0_0.length c0_0, .int .i64 a0_1] 39 (0, 0)) (by (with_reducible repeat (first | refine blk_drewN ?_ _ | refine blk_drew ?_ | refine blk_alloc ?_ _)); exact BK402.out)) : gb404 ≠ gb402)); clear BK402; clear HB; have BK402 := n0_; have HB := n1_; have BK404 := n2_; have GW404 := n3_; have GE404 := n4_; have NB402_404 := n5_; have NB404_402 := n6_; clear n0_ n1_ n2_ n3_ n4_ n5_ n6_; clear hb hbox hg; have hnb42 := NB404_402.out; have hnc42 := NB402_404.out; have hcz43_0 : w41.cell? ⟨gb404, 0, none⟩ = some (.int .i64 0) := (blk_cell BK404.out 0).trans rfl; have hcz43_1 : w41.cell? ⟨gb404, 1, none⟩ = some (.int .u64 0) := (blk_cell BK404.out 1).trans rfl; have hcz43_2 : w41.cell? ⟨gb404, 2, none⟩ = some (.int .i64 0) := (blk_cell BK404.out 2).trans rfl; have hfz43_0 := blk_frozen BK404.out 0; have hfz43_1 := blk_frozen BK404.out 1; have hfz43_2 := blk_frozen BK404.out 2) | (go_at_call 44; (with_reducible refine (heronryref21_among.calls k1 ((rd_T43 l0_0 x7_1).f0) _ _ l1 false _ ?side1 ?side2 A6.out).mono ?_); (case side1 => exact Kd.C_below HR1.out (by repeat (first | (with_reducible first | exact HB.out | apply below_alloc | apply pw_below_drewN | apply below_drew1 | refine below_set ?_ GE402.out | refine below_set ?_ GE404.out) | exact HB.out))); (case side2 => exact HC1.out); rintro e w' ⟨rfl, ⟨nd, rfl⟩⟩; (try first | exact ⟨rfl, _, World.drewN_drewN _ _ _⟩ | exact ⟨rfl, _, Eq.trans (World.drewN_drewN _ _ _) (congrArg (World.drewN _) (Nat.add_assoc _ _ _))⟩)))
      repeat (go_quiet (first | ((with_reducible refine gate_dst (N := 8) rfl ?_); refine box_event ?hg (N := 8) ?hd (cs := #[.int .i64 0, .int .u64 0, .int .i64 0]) (t := 43) ?hr ?_; (case hd => rfl); (case hg => rfl); (case hr => first | (go_simp; done) | (go_simp; rfl)); intro gb404 hg w41 hbox hb; have n0_ := Aside0.mk (blk_below (g := gb402) (o := .cells #[.slice (some ad403) l0_0.length c0_0, .int .i64 a0_1] 39 (0, 0)) (by (with_reducible repeat (first | refine blk_drewN ?_ _ | refine blk_drew ?_ | refine blk_alloc ?_ _)); exact BK402.out) hb); have n1_ := Aside0.mk (below_step (by repeat (first | (with_reducible first | exact HB.out | apply below_alloc | apply pw_below_drewN | apply below_drew1 | refine below_set ?_ GE402.out) | exact HB.out)) hb); have n2_ := Aside0.mk (hbox); have n3_ := Aside0.mk ((by rw [hg]; exact (below_size (by repeat (first | (with_reducible first | exact HB.out | apply below_alloc | apply pw_below_drewN | apply below_drew1 | refine below_set ?_ GE402.out) | exact HB.out))) : w.heap.size ≤ gb404)); have n4_ := Aside0.mk ((by rw [hg]; exact (below_size (by repeat (first | (with_reducible first | exact HB.out | apply below_alloc | apply pw_below_drewN | apply below_drew1 | refine below_set ?_ GE402.out) | exact HB.out))) : w.heap.size ≤ gb404)); have n5_ := Aside0.mk ((by rw [hg]; exact Nat.ne_of_lt (blk_lt (g := gb402) (o := .cells #[.slice (some ad403) l0_0.length c0_0, .int .i64 a0_1] 39 (0, 0)) (by (with_reducible repeat (first | refine blk_drewN ?_ _ | refine blk_drew ?_ | refine blk_alloc ?_ _)); exact BK402.out)) : gb402 ≠ gb404)); have n6_ := Aside0.mk ((by rw [hg]; exact Nat.ne_of_gt (blk_lt (g := gb402) (o := .cells #[.slice (some ad403) l0_0.length c0_0, .int .i64 a0_1] 39 (0, 0)) (by (with_reducible repeat (first | refine blk_drewN ?_ _ | refine blk_drew ?_ | refine blk_alloc ?_ _)); exact BK402.out)) : gb404 ≠ gb402)); clear BK402; clear HB; have BK402 := n0_; have HB := n1_; have BK404 := n2_; have GW404 := n3_; have GE404 := n4_; have NB402_404 := n5_; have NB404_402 := n6_; clear n0_ n1_ n2_ n3_ n4_ n5_ n6_; clear hb hbox hg; have hnb42 := NB404_402.out; have hnc42 := NB402_404.out; have hcz43_0 : w41.cell? ⟨gb404, 0, none⟩ = some (.int .i64 0) := (blk_cell BK404.out 0).trans rfl; have hcz43_1 : w41.cell? ⟨gb404, 1, none⟩ = some (.int .u64 0) := (blk_cell BK404.out 1).trans rfl; have hcz43_2 : w41.cell? ⟨gb404, 2, none⟩ = some (.int .i64 0) := (blk_cell BK404.out 2).trans rfl; have hfz43_0 := blk_frozen BK404.out 0; have hfz43_1 := blk_frozen BK404.out 1; have hfz43_2 := blk_frozen BK404.out 2) | (go_at_call 44; (with_reducible refine (heronryref21_among.calls k1 ((rd_T43 l0_0 x7_1).f0) _ _ l1 false _ ?side1 ?side2 A6.out).mono ?_); (case side1 => exact Kd.C_below HR1.out (by repeat (first | (with_reducible first | exact HB.out | apply below_alloc | apply pw_below_drewN | apply below_drew1 | refine below_set ?_ GE402.out | refine below_set ?_ GE404.out) | exact HB.out))); (case side2 => exact HC1.out); rintro e w' ⟨rfl, ⟨nd, rfl⟩⟩; (try first | exact ⟨rfl, _, World.drewN_drewN _ _ _⟩ | exact ⟨rfl, _, Eq.trans (World.drewN_drewN _ _ _) (congrArg (World.drewN _) (Nat.add_assoc _ _ _))⟩))); try go_wp2_with (first | ((with_reducible refine gate_dst (N := 8) rfl ?_); refine box_event ?hg (N := 8) ?hd (cs := #[.int .i64 0, .int .u64 0, .int .i64 0]) (t := 43) ?hr ?_; (case hd => rfl); (case hg => rfl); (case hr => first | (go_simp; done) | (go_simp; rfl)); intro gb404 hg w41 hbox hb; have n0_ := Aside0.mk (blk_below (g := gb402) (o := .cells #[.slice (some ad403) l0_0.length c0_0, .int .i64 a0_1] 39 (0, 0)) (by (with_reducible repeat (first | refine blk_drewN ?_ _ | refine blk_drew ?_ | refine blk_alloc ?_ _)); exact BK402.out) hb); have n1_ := Aside0.mk (below_step (by repeat (first | (with_reducible first | exact HB.out | apply below_alloc | apply pw_below_drewN | apply below_drew1 | refine below_set ?_ GE402.out) | exact HB.out)) hb); have n2_ := Aside0.mk (hbox); have n3_ := Aside0.mk ((by rw [hg]; exact (below_size (by repeat (first | (with_reducible first | exact HB.out | apply below_alloc | apply pw_below_drewN | apply below_drew1 | refine below_set ?_ GE402.out) | exact HB.out))) : w.heap.size ≤ gb404)); have n4_ := Aside0.mk ((by rw [hg]; exact (below_size (by repeat (first | (with_reducible first | exact HB.out | apply below_alloc | apply pw_below_drewN | apply below_drew1 | refine below_set ?_ GE402.out) | exact HB.out))) : w.heap.size ≤ gb404)); have n5_ := Aside0.mk ((by rw [hg]; exact Nat.ne_of_lt (blk_lt (g := gb402) (o := .cells #[.slice (some ad403) l0_0.length c0_0, .int .i64 a0_1] 39 (0, 0)) (by (with_reducible repeat (first | refine blk_drewN ?_ _ | refine blk_drew ?_ | refine blk_alloc ?_ _)); exact BK402.out)) : gb402 ≠ gb404)); have n6_ := Aside0.mk ((by rw [hg]; exact Nat.ne_of_gt (blk_lt (g := gb402) (o := .cells #[.slice (some ad403) l0_0.length c0_0, .int .i64 a0_1] 39 (0, 0)) (by (with_reducible repeat (first | refine blk_drewN ?_ _ | refine blk_drew ?_ | refine blk_alloc ?_ _)); exact BK402.out)) : gb404 ≠ gb402)); clear BK402; clear HB; have BK402 := n0_; have HB := n1_; have BK404 := n2_; have GW404 := n3_; have GE404 := n4_; have NB402_404 := n5_; have NB404_402 := n6_; clear n0_ n1_ n2_ n3_ n4_ n5_ n6_; clear hb hbox hg; have hnb42 := NB404_402.out; have hnc42 := NB402_404.out; have hcz43_0 : w41.cell? ⟨gb404, 0, none⟩ = some (.int .i64 0) := (blk_cell BK404.out 0).trans rfl; have hcz43_1 : w41.cell? ⟨gb404, 1, none⟩ = some (.int .u64 0) := (blk_cell BK404.out 1).trans rfl; have hcz43_2 : w41.cell? ⟨gb404, 2, none⟩ = some (.int .i64 0) := (blk_cell BK404.out 2).trans rfl; have hfz43_0 := blk_frozen BK404.out 0; have hfz43_1 := blk_frozen BK404.out 1; have hfz43_2 := blk_frozen BK404.out 2) | (go_at_call 44; (with_reducible refine (heronryref21_among.calls k1 ((rd_T43 l0_0 x7_1).f0) _ _ l1 false _ ?side1 ?side2 A6.out).mono ?_); (case side1 => exact Kd.C_below HR1.out (by repeat (first | (with_reducible first | exact HB.out | apply below_alloc | apply pw_below_drewN | apply below_drew1 | refine below_set ?_ GE402.out | refine below_set ?_ GE404.out) | exact HB.out))); (case side2 => exact HC1.out); rintro e w' ⟨rfl, ⟨nd, rfl⟩⟩; (try first | exact ⟨rfl, _, World.drewN_drewN _ _ _⟩ | exact ⟨rfl, _, Eq.trans (World.drewN_drewN _ _ _) (congrArg (World.drewN _) (Nat.add_assoc _ _ _))⟩))))
      go_roundg k1
      case measure => have := HK1.out; omega
      case rel => exact ⟨(x5_1), (x6_1), (wrap64 (x7_1 + 1)), (by first | rfl | (simp; done) | (simp [*]; done)), (by first | rfl | (simp; done) | (simp [*]; done)), (by first | rfl | (simp; done) | (simp [*]; done)), H', ⟨by have := HK1.out; omega⟩, ⟨by (with_reducible repeat (first | refine blk_drewN ?_ _ | refine blk_drew ?_ | refine blk_alloc ?_ _)); refine blk_far ?_ NB402_404.out _; (with_reducible repeat (first | refine blk_drewN ?_ _ | refine blk_drew ?_ | refine blk_alloc ?_ _)); refine blk_far ?_ NB402_404.out _; (with_reducible repeat (first | refine blk_drewN ?_ _ | refine blk_drew ?_ | refine blk_alloc ?_ _)); refine blk_far ?_ NB402_404.out _; (with_reducible repeat (first | refine blk_drewN ?_ _ | refine blk_drew ?_ | refine blk_alloc ?_ _)); exact BK402.out⟩, ⟨by repeat (first | (with_reducible first | exact HB.out | apply below_alloc | apply pw_below_drewN | apply below_drew1 | refine below_set ?_ GE402.out | refine below_set ?_ GE404.out) | exact HB.out)⟩⟩
    ·rw [if_neg c5] at H
     exact absurd H (by simp)
   ·rw [if_neg c4] at H
    have c4b0 : decide (x7_1 < (l0_0.length : Int)) = false := decide_eq_false c4
    clear c4
    by_cases c44 : x5_1 ≥ 0
    ·rw [if_pos c44] at H
     have c44b0 : decide (0 ≤ x5_1) = true := decide_eq_true c44
     clear c44
     obtain rfl := Option.some.inj H
     have hcz45_0 : wr.cell? ⟨gb402, 0, none⟩ = some (.slice A0_0 l0_0.length c0_0) := (blk_cell BK402.out 0).trans rfl
     have hcz45_1 : wr.cell? ⟨gb402, 1, none⟩ = some (.int .i64 a0_1) := (blk_cell BK402.out 1).trans rfl
     have hfz45_0 := blk_frozen BK402.out 0
     have hfz45_1 := blk_frozen BK402.out 1
     go_wp2
     repeat (go_quiet (fail); try go_wp2)
     go_ret
     exact ⟨by first | rfl | (simp [errW_none, errW_some] <;> rfl) | (simp [*, errW_none, errW_some] <;> rfl), by repeat (first | (with_reducible first | exact HB.out | apply below_alloc | apply pw_below_drewN | apply below_drew1 | refine below_set ?_ GE402.out) | exact HB.out)⟩
    ·rw [if_neg c44] at H
     have c44b0 : decide (0 ≤ x5_1) = false := decide_eq_false c44
     clear c44
     obtain rfl := Option.some.inj H
     have hcz46_0 : wr.cell? ⟨gb402, 0, none⟩ = some (.slice A0_0 l0_0.length c0_0) := (blk_cell BK402.out 0).trans rfl
     have hcz46_1 : wr.cell? ⟨gb402, 1, none⟩ = some (.int .i64 a0_1) := (blk_cell BK402.out 1).trans rfl
     have hfz46_0 := blk_frozen BK402.out 0
     have hfz46_1 := blk_frozen BK402.out 1
     go_wp2
     repeat (go_quiet (fail); try go_wp2)
     go_ret
     exact ⟨by first | rfl | (simp [errW_none, errW_some] <;> rfl) | (simp [*, errW_none, errW_some] <;> rfl), by repeat (first | (with_reducible first | exact HB.out | apply below_alloc | apply pw_below_drewN | apply below_drew1 | refine below_set ?_ GE402.out) | exact HB.out)⟩

end Go.Proofs.Ytjbdlgjhnldfbaa.Q
