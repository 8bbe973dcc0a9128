-- Cut to what one claim reaches, out of what the kit's print laid for this seat (wip/tools/trim.py).
import Derived.Test.YtjbdlgjhnldfbaaQ0
import Derived.Test.YtjbdlgjhnldfbaaQ2
import Derived.Test.YtjbdlgjhnldfbaaQ3
import Derived.Test.YtjbdlgjhnldfbaaQ5
import Derived.Test.YtjbdlgjhnldfbaaQ7
import Derived.Test.YtjbdlgjhnldfbaaQ11
import Derived.Test.YtjbdlgjhnldfbaaQ12
import Derived.Test.YtjbdlgjhnldfbaaQ15
import Derived.Test.YtjbdlgjhnldfbaaQ17
import Derived.Test.YtjbdlgjhnldfbaaQ19
import Derived.Test.YtjbdlgjhnldfbaaQ20
import Derived.Test.YtjbdlgjhnldfbaaQ22
import Derived.Test.YtjbdlgjhnldfbaaQ23
import Derived.Test.YtjbdlgjhnldfbaaQ24
import Derived.Test.YtjbdlgjhnldfbaaQ25
namespace Go.Proofs.Ytjbdlgjhnldfbaa.Q
open Go.RowKit Go.Proofs.YtjbdlgjhnldfbaaW.PrintWords Go.Proofs.YtjbdlgjhnldfbaaW.PrintLast Go.Proofs.YtjbdlgjhnldfbaaW.PrintMore
attribute [local go_sem] max2_int min2_int max_two min_two max_three min_three max_four min_four   -- for this text's walks alone
set_option linter.unusedVariables false
set_option linter.unusedSimpArgs false

def heronrylaw21_SchedIs.j0 : Nat → Int → Int → List Int → Bool → Bool → List (S43) → Int → Option (Bool)
 | 0, _, _, _, _, _, _, _ => none
 | k + 1, x1, x2, x3, x9, x34, x439000, x439001 => if x34 = true then (some x9) else ((heronrylaw21_ours.f k x439000 x439001).bind fun bt440 => ((sched_Add.f k bt440.1 bt440.2 x1 x2).bind fun bt445 => ((heronryref21_Add.f k x439000 x439001 x1 x2).bind fun bt451 => ((sched_Drop.f k bt440.1 bt440.2 x1).bind fun bt457 => ((heronryref21_Drop.f k x439000 x439001 x1).bind fun bt463 => ((sched_Pick.f k bt440.1 bt440.2 x3).bind fun bt469 => ((heronryref21_Pick.f k x439000 x439001 x3).bind fun bt476 => (if x9 = true then ((sched_Sane.f k bt440.1 bt440.2).bind fun t483 => ((heronryref21_Sane.f k x439000 x439001).bind fun t484 => (if (t483 == t484) = true then ((heronrylaw21_theirs.f k bt445.1 bt445.2.1).bind fun bt485 => ((heronryref21_Same.f k bt485.1 bt485.2 bt451.1 bt451.2.1).bind fun t489 => (if t489 = true then (if bt445.2.2 = bt451.2.2 then ((heronrylaw21_theirs.f k bt457.1 bt457.2.1).bind fun bt490 => ((heronryref21_Same.f k bt490.1 bt490.2 bt463.1 bt463.2.1).bind fun t494 => (if t494 = true then (if bt457.2.2 = bt463.2.2 then ((heronrylaw21_theirs.f k bt469.1 bt469.2.1).bind fun bt495 => ((heronryref21_Same.f k bt495.1 bt495.2 bt476.1 bt476.2.1).bind fun t499 => (if t499 = true then (if bt469.2.2.1 = bt476.2.2.1 then (if bt469.2.2.2 = bt476.2.2.2 then ((sched_Bound.f k bt440.1 bt440.2).bind fun t500 => ((heronryref21_Bound.f k x439000 x439001).bind fun t501 => (if t500 = t501 then ((heronrylaw21_theirs.f k bt440.1 bt440.2).bind fun bt502 => ((heronryref21_Same.f k bt502.1 bt502.2 x439000 x439001).bind fun t506 => (some t506))) else (none)))) else (none)) else (none)) else (none)))) else (none)) else (none)))) else (none)) else (none)))) else (none)))) else (none)))))))))
def heronrylaw21_SchedIs.f (k : Nat) (l0_0 : List (S43)) (a0_1 : Int) (a1 : Int) (a2 : Int) (l3 : List Int) : Option (Bool) := (heronrylaw21_awake.f k).bind fun t439 => (if (l0_0.length : Int) > 70 then (heronrylaw21_SchedIs.j0 k a1 a2 l3 t439 true l0_0 a0_1) else (heronrylaw21_SchedIs.j0 k a1 a2 l3 t439 (decide ((l3.length : Int) > 60)) l0_0 a0_1))
def heronrylaw21_SchedIs.T11 : Bool × List (List Nat × List Nat) := (true, [([], []), ([0], [0]), ([1], [1]), ([2, 1, 1], [1, 2]), ([1], [1]), ([4, 3, 1], [1, 4]), ([3, 5, 1], [1, 3, 5]), ([1, 6], [1, 6]), ([7, 5], [7]), ([8], [8]), ([9, 8, 8], [8, 9]), ([8], [8]), ([10, 11, 10, 8], [8, 10, 11]), ([8, 12], [8, 12]), ([13, 12], [13]), ([14], [14]), ([14], [14]), ([15, 16, 14], [14, 15, 16]), ([14, 17], [14, 17]), ([18, 14], [18]), ([19], [19]), ([20, 19, 19], [19, 20]), ([19], [19]), ([21, 22, 21, 19], [19, 21, 22]), ([19, 23], [19, 23]), ([24, 23], [24]), ([25], [25]), ([25], [25]), ([26, 27, 25], [25, 26, 27]), ([25, 28], [25, 28]), ([29, 25], [29]), ([30], [30]), ([31, 30, 30], [30, 31]), ([30], [30]), ([32, 33, 32, 30], [30, 32, 33]), ([30, 34], [30, 34]), ([35, 34], [35]), ([36], [36]), ([36], [36]), ([37, 38, 36], [36, 37, 38]), ([36, 39], [36, 39]), ([40, 36], [40]), ([41], [41]), ([41], [41]), ([42, 43, 41], [41, 42, 43]), ([41, 44], [41, 44]), ([45, 41], [45]), ([46], [46]), ([47, 46, 46], [46, 47]), ([46], [46]), ([49, 48, 46], [46, 49]), ([48, 50, 46], [46, 48, 50]), ([46, 51], [46, 51]), ([52, 50], [52]), ([53], [53]), ([54, 53, 53], [53, 54]), ([53], [53]), ([55, 56, 55, 53], [53, 55, 56]), ([53, 57], [53, 57]), ([58, 57, 0, 1, 2, 3, 4, 5, 6, 7, 8, 9, 10, 11, 12, 13, 14, 15, 16, 17, 18, 19, 20, 21, 22, 23, 24, 25, 26, 27, 28, 29, 30, 31, 32, 33, 34, 35, 36, 37, 38, 39, 40, 41, 42, 43, 44, 45, 46, 47, 48, 49, 50, 51, 52, 53, 54, 55, 56, 57, 58], [58])])
def heronrylaw21_SchedIs.B11 : List Nat := [0, 1, 3, 7, 3, 31, 63, 127, 255, 511, 1023, 511, 4095, 8191, 16383, 32767, 32767, 131071, 262143, 524287, 1048575, 2097151, 1048575, 8388607, 16777215, 33554431, 67108863, 67108863, 268435455, 536870911, 1073741823, 2147483647, 4294967295, 2147483647, 17179869183, 34359738367, 68719476735, 137438953471, 137438953471, 549755813887, 1099511627775, 2199023255551, 4398046511103, 4398046511103, 17592186044415, 35184372088831, 70368744177663, 140737488355327, 281474976710655, 140737488355327, 1125899906842623, 2251799813685247, 4503599627370495, 9007199254740991, 18014398509481983, 36028797018963967, 18014398509481983, 144115188075855871, 288230376151711743, 576460752303423487]
theorem heronrylaw21_SchedIs.tab11 : rtab .any (opsOf Try.f7 11) = heronrylaw21_SchedIs.T11 := by kernel_rfl
theorem heronrylaw21_SchedIs.bits11 : waitsOk heronrylaw21_SchedIs.T11.2 heronrylaw21_SchedIs.B11 = true := by kernel_rfl
set_option maxHeartbeats 8000000 in
set_option maxRecDepth 100000 in
theorem heronrylaw21_SchedIs.calls (k : Nat) (A0_0 : Option Addr) (c0_0 : Nat) (l0_0 : List (S43)) (a0_1 : Int) (a1 : Int) (a2 : Int) (A3 : Option Addr) (c3 : Nat) (l3 : List Int) (r : Bool) (w : World) (hT_ : Aside0 (r = true)) (hr0_0 : Kd.C k43 w A0_0 l0_0.length l0_0) (hc0_0 : l0_0.length ≤ c0_0) (hr3 : Kd.C (Kd.int .i64) w A3 l3.length l3) (hc3 : l3.length ≤ c3) (h : heronrylaw21_SchedIs.f k l0_0 a0_1 a1 a2 l3 = some r) :
  Calls Try.prog 7 #[.agg #[.slice A0_0 l0_0.length c0_0, .int .i64 a0_1], .int .i64 a1, .int .u64 a2, .slice A3 l3.length c3] w fun e w' => e = .returned (.bool r) ∧ Below w.heap.size w w' := by
 have hu39 := Try.underlying39
 have hu26 := Try.underlying26
 have HR0_0 := Aside0.mk hr0_0
 have HC0_0 := Aside0.mk hc0_0
 clear hr0_0 hc0_0
 have HR3 := Aside0.mk hr3
 have HC3 := Aside0.mk hc3
 clear hr3 hc3
 have HB := Aside0.mk (Below.refl w.heap.size w)
 have H : ((heronrylaw21_awake.f k).bind fun t439 => (if (l0_0.length : Int) > 70 then (heronrylaw21_SchedIs.j0 k a1 a2 l3 t439 true l0_0 a0_1) else (heronrylaw21_SchedIs.j0 k a1 a2 l3 t439 (decide ((l3.length : Int) > 60)) l0_0 a0_1))) = some r := h
 clear h
 replace H := Option.bind_eq_some_iff.mp H
 obtain ⟨t439, A50, H⟩ := H
 replace H : (if (l0_0.length : Int) > 70 then (heronrylaw21_SchedIs.j0 k a1 a2 l3 t439 true l0_0 a0_1) else (heronrylaw21_SchedIs.j0 k a1 a2 l3 t439 (decide ((l3.length : Int) > 60)) l0_0 a0_1)) = some r := H
 have A5 := Aside0.mk A50
 clear A50
 have HC6 := Aside0.mk H
 clear H
 go_enter Try.func7, Try.ntmps7
 go_upto_region 2 with (first | ((with_reducible refine gate_dst (N := 4) rfl ?_); (try (refine gate_guard (by rfl) ?_; dsimp only)); refine box_event ?hg (N := 4) ?hd (cs := #[.slice A0_0 l0_0.length c0_0, .int .i64 a0_1]) (t := 39) ?hr ?_; (case hd => rfl); (case hg => rfl); (case hr => first | (go_simp; done) | (go_simp; rfl)); intro gb438 hg w7 hbox hb; have n0_ := Aside0.mk (below_step (by repeat (first | (with_reducible first | exact HB.out | apply below_alloc | apply pw_below_drewN | apply below_drew1) | exact HB.out)) hb); have n1_ := Aside0.mk (hbox); have n2_ := Aside0.mk ((by rw [hg]; exact (below_size (by repeat (first | (with_reducible first | exact HB.out | apply below_alloc | apply pw_below_drewN | apply below_drew1) | exact HB.out))) : w.heap.size ≤ gb438)); have n3_ := Aside0.mk ((by rw [hg]; exact (below_size (by repeat (first | (with_reducible first | exact HB.out | apply below_alloc | apply pw_below_drewN | apply below_drew1) | exact HB.out))) : w.heap.size ≤ gb438)); clear HB; have HB := n0_; have BK438 := n1_; have GW438 := n2_; have GE438 := n3_; clear n0_ n1_ n2_ n3_; clear hb hbox hg) | ((with_reducible refine gate_callee (f := 8) rfl ?_); refine goesL_ (some 25) rfl rfl Try.func8 (by kernel_rfl) rfl #[] rfl (by (try simp only [List.map_toArray, List.map_cons, List.map_nil]); first | done | rfl | (simp only [List.length_drop, List.length_take]; rfl)) ?_; (with_reducible refine (heronrylaw21_awake.calls k  t439 _ A5.out).mono ?_); rintro e w8 ⟨rfl, hb⟩; refine ⟨_, rfl, ?_⟩; have n0_ := Aside0.mk (blk_below (g := gb438) (o := .cells #[.slice A0_0 l0_0.length c0_0, .int .i64 a0_1] 39 (0, 0)) (by (with_reducible repeat (first | refine blk_drewN ?_ _ | refine blk_drew ?_ | refine blk_alloc ?_ _)); exact BK438.out) hb); have n1_ := Aside0.mk (below_step (by repeat (first | (with_reducible first | exact HB.out | apply below_alloc | apply pw_below_drewN | apply below_drew1 | refine below_set ?_ GE438.out) | exact HB.out)) hb); clear BK438; clear HB; have BK438 := n0_; have HB := n1_; clear n0_ n1_; (try clear hb); (try clear hb2); (try clear hk); (try clear hi)))
 (try simp only [Act.put, List.setIfInBounds_toArray, List.set_cons_zero, List.set_cons_succ])
 go_cut [34] (fun v34 wc => ∃ (kq : Nat) (x34_5 : Bool), v34 = .bool x34_5 ∧ Aside0 (heronrylaw21_SchedIs.j0 kq a1 a2 l3 t439 x34_5 l0_0 a0_1 = some r) ∧ Aside0 (kq ≤ k) ∧ Aside0 (wc.heap[gb438]? = some (.cells #[(.slice A0_0 l0_0.length c0_0), .int .i64 a0_1] 39 (0, 0))) ∧ Aside0 (Below w.heap.size w wc))
 case first =>
  have H := HC6.out
  clear HC6
  by_cases c9 : (l0_0.length : Int) > 70
  ·rw [if_pos c9] at H
   have c9b0 : decide (70 < (l0_0.length : Int)) = true := decide_eq_true c9
   have c9b1 : decide (70 < l0_0.length) = true := decide_eq_true (by omega)
   clear c9
   (first | rw [c9b0] | (simp only [i64_w, i32_w]; rw [c9b0]) | skip)
   have H' := Aside0.mk H
   clear H
   have hcz10_0 : w8.cell? ⟨gb438, 0, none⟩ = some (.slice A0_0 l0_0.length c0_0) := (blk_cell BK438.out 0).trans rfl
   have hcz10_1 : w8.cell? ⟨gb438, 1, none⟩ = some (.int .i64 a0_1) := (blk_cell BK438.out 1).trans rfl
   have hfz10_0 := blk_frozen BK438.out 0
   have hfz10_1 := blk_frozen BK438.out 1
   go_wp2
   go_meet
   case rel => exact ⟨_, (true), (by first | rfl | (simp; done) | (simp [*]; done)), H', ⟨by first | omega | exact Nat.le_refl _⟩, ⟨by (with_reducible repeat (first | refine blk_drewN ?_ _ | refine blk_drew ?_ | refine blk_alloc ?_ _)); exact BK438.out⟩, ⟨by repeat (first | (with_reducible first | exact HB.out | apply below_alloc | apply pw_below_drewN | apply below_drew1 | refine below_set ?_ GE438.out) | exact HB.out)⟩⟩
  ·rw [if_neg c9] at H
   have c9b0 : decide (70 < (l0_0.length : Int)) = false := decide_eq_false c9
   have c9b1 : decide (70 < l0_0.length) = false := decide_eq_false (by omega)
   clear c9
   (first | rw [c9b0] | (simp only [i64_w, i32_w]; rw [c9b0]) | skip)
   have H' := Aside0.mk H
   clear H
   have hcz11_0 : w8.cell? ⟨gb438, 0, none⟩ = some (.slice A0_0 l0_0.length c0_0) := (blk_cell BK438.out 0).trans rfl
   have hcz11_1 : w8.cell? ⟨gb438, 1, none⟩ = some (.int .i64 a0_1) := (blk_cell BK438.out 1).trans rfl
   have hfz11_0 := blk_frozen BK438.out 0
   have hfz11_1 := blk_frozen BK438.out 1
   go_wp2
   go_meet
   case rel => exact ⟨_, (decide ((l3.length : Int) > 60)), (by first | rfl | (simp; done) | (simp [*]; done)), H', ⟨by first | omega | exact Nat.le_refl _⟩, ⟨by (with_reducible repeat (first | refine blk_drewN ?_ _ | refine blk_drew ?_ | refine blk_alloc ?_ _)); exact BK438.out⟩, ⟨by repeat (first | (with_reducible first | exact HB.out | apply below_alloc | apply pw_below_drewN | apply below_drew1 | refine below_set ?_ GE438.out) | exact HB.out)⟩⟩
 case rest =>
  clear HC6
  try clear p2
  try clear c3
  try clear c7
  try clear c8
  try clear c9
  try clear c9b0
  try clear c9b1
  try clear hcz10_0
  try clear hcz10_1
  try clear hcz11_0
  try clear hcz11_1
  try clear hfz10_0
  try clear hfz10_1
  try clear hfz11_0
  try clear hfz11_1
  obtain ⟨kq, x34_5, rfl, HA, HJ5, BK438, HB⟩ := hcut
  cases kq with
  | zero => exact absurd HA.out (by simp [heronrylaw21_SchedIs.j0])
  | succ kj5 =>
   have H := HA.out
   clear HA
   simp only [heronrylaw21_SchedIs.j0] at H
   by_cases c12 : x34_5 = true
   ·subst c12
    have H1 : (some t439) = some r := by rw [if_pos rfl] at H; exact H
    clear H
    have H := H1
    clear H1
    obtain rfl := Option.some.inj H
    go_wp2
    go_ret
    exact ⟨by first | rfl | (simp [errW_none, errW_some] <;> rfl) | (simp [*, errW_none, errW_some] <;> rfl), by repeat (first | (with_reducible first | exact HB.out | apply below_alloc | apply pw_below_drewN | apply below_drew1 | refine below_set ?_ GE438.out) | exact HB.out)⟩
   ·replace c12 := Bool.eq_false_iff.mpr c12
    subst c12
    have H1 : ((heronrylaw21_ours.f kj5 l0_0 a0_1).bind fun bt440 => ((sched_Add.f kj5 bt440.1 bt440.2 a1 a2).bind fun bt445 => ((heronryref21_Add.f kj5 l0_0 a0_1 a1 a2).bind fun bt451 => ((sched_Drop.f kj5 bt440.1 bt440.2 a1).bind fun bt457 => ((heronryref21_Drop.f kj5 l0_0 a0_1 a1).bind fun bt463 => ((sched_Pick.f kj5 bt440.1 bt440.2 l3).bind fun bt469 => ((heronryref21_Pick.f kj5 l0_0 a0_1 l3).bind fun bt476 => (if t439 = true then ((sched_Sane.f kj5 bt440.1 bt440.2).bind fun t483 => ((heronryref21_Sane.f kj5 l0_0 a0_1).bind fun t484 => (if (t483 == t484) = true then ((heronrylaw21_theirs.f kj5 bt445.1 bt445.2.1).bind fun bt485 => ((heronryref21_Same.f kj5 bt485.1 bt485.2 bt451.1 bt451.2.1).bind fun t489 => (if t489 = true then (if bt445.2.2 = bt451.2.2 then ((heronrylaw21_theirs.f kj5 bt457.1 bt457.2.1).bind fun bt490 => ((heronryref21_Same.f kj5 bt490.1 bt490.2 bt463.1 bt463.2.1).bind fun t494 => (if t494 = true then (if bt457.2.2 = bt463.2.2 then ((heronrylaw21_theirs.f kj5 bt469.1 bt469.2.1).bind fun bt495 => ((heronryref21_Same.f kj5 bt495.1 bt495.2 bt476.1 bt476.2.1).bind fun t499 => (if t499 = true then (if bt469.2.2.1 = bt476.2.2.1 then (if bt469.2.2.2 = bt476.2.2.2 then ((sched_Bound.f kj5 bt440.1 bt440.2).bind fun t500 => ((heronryref21_Bound.f kj5 l0_0 a0_1).bind fun t501 => (if t500 = t501 then ((heronrylaw21_theirs.f kj5 bt440.1 bt440.2).bind fun bt502 => ((heronryref21_Same.f kj5 bt502.1 bt502.2 l0_0 a0_1).bind fun t506 => (some t506))) else (none)))) else (none)) else (none)) else (none)))) else (none)) else (none)))) else (none)) else (none)))) else (none)))) else (none))))))))) = some r := by rw [if_neg (show ¬ (false = true) by decide)] at H; exact H
    clear H
    have H := H1
    clear H1
    replace H := Option.bind_eq_some_iff.mp H
    obtain ⟨⟨t440, t443⟩, A130, H⟩ := H
    replace H : ((sched_Add.f kj5 t440 t443 a1 a2).bind fun bt445 => ((heronryref21_Add.f kj5 l0_0 a0_1 a1 a2).bind fun bt451 => ((sched_Drop.f kj5 t440 t443 a1).bind fun bt457 => ((heronryref21_Drop.f kj5 l0_0 a0_1 a1).bind fun bt463 => ((sched_Pick.f kj5 t440 t443 l3).bind fun bt469 => ((heronryref21_Pick.f kj5 l0_0 a0_1 l3).bind fun bt476 => (if t439 = true then ((sched_Sane.f kj5 t440 t443).bind fun t483 => ((heronryref21_Sane.f kj5 l0_0 a0_1).bind fun t484 => (if (t483 == t484) = true then ((heronrylaw21_theirs.f kj5 bt445.1 bt445.2.1).bind fun bt485 => ((heronryref21_Same.f kj5 bt485.1 bt485.2 bt451.1 bt451.2.1).bind fun t489 => (if t489 = true then (if bt445.2.2 = bt451.2.2 then ((heronrylaw21_theirs.f kj5 bt457.1 bt457.2.1).bind fun bt490 => ((heronryref21_Same.f kj5 bt490.1 bt490.2 bt463.1 bt463.2.1).bind fun t494 => (if t494 = true then (if bt457.2.2 = bt463.2.2 then ((heronrylaw21_theirs.f kj5 bt469.1 bt469.2.1).bind fun bt495 => ((heronryref21_Same.f kj5 bt495.1 bt495.2 bt476.1 bt476.2.1).bind fun t499 => (if t499 = true then (if bt469.2.2.1 = bt476.2.2.1 then (if bt469.2.2.2 = bt476.2.2.2 then ((sched_Bound.f kj5 t440 t443).bind fun t500 => ((heronryref21_Bound.f kj5 l0_0 a0_1).bind fun t501 => (if t500 = t501 then ((heronrylaw21_theirs.f kj5 t440 t443).bind fun bt502 => ((heronryref21_Same.f kj5 bt502.1 bt502.2 l0_0 a0_1).bind fun t506 => (some t506))) else (none)))) else (none)) else (none)) else (none)))) else (none)) else (none)))) else (none)) else (none)))) else (none)))) else (none)))))))) = some r := H
    have A13 := Aside0.mk A130
    clear A130
    replace H := Option.bind_eq_some_iff.mp H
    obtain ⟨⟨t445, t448, t449⟩, A140, H⟩ := H
    replace H : ((heronryref21_Add.f kj5 l0_0 a0_1 a1 a2).bind fun bt451 => ((sched_Drop.f kj5 t440 t443 a1).bind fun bt457 => ((heronryref21_Drop.f kj5 l0_0 a0_1 a1).bind fun bt463 => ((sched_Pick.f kj5 t440 t443 l3).bind fun bt469 => ((heronryref21_Pick.f kj5 l0_0 a0_1 l3).bind fun bt476 => (if t439 = true then ((sched_Sane.f kj5 t440 t443).bind fun t483 => ((heronryref21_Sane.f kj5 l0_0 a0_1).bind fun t484 => (if (t483 == t484) = true then ((heronrylaw21_theirs.f kj5 t445 t448).bind fun bt485 => ((heronryref21_Same.f kj5 bt485.1 bt485.2 bt451.1 bt451.2.1).bind fun t489 => (if t489 = true then (if t449 = bt451.2.2 then ((heronrylaw21_theirs.f kj5 bt457.1 bt457.2.1).bind fun bt490 => ((heronryref21_Same.f kj5 bt490.1 bt490.2 bt463.1 bt463.2.1).bind fun t494 => (if t494 = true then (if bt457.2.2 = bt463.2.2 then ((heronrylaw21_theirs.f kj5 bt469.1 bt469.2.1).bind fun bt495 => ((heronryref21_Same.f kj5 bt495.1 bt495.2 bt476.1 bt476.2.1).bind fun t499 => (if t499 = true then (if bt469.2.2.1 = bt476.2.2.1 then (if bt469.2.2.2 = bt476.2.2.2 then ((sched_Bound.f kj5 t440 t443).bind fun t500 => ((heronryref21_Bound.f kj5 l0_0 a0_1).bind fun t501 => (if t500 = t501 then ((heronrylaw21_theirs.f kj5 t440 t443).bind fun bt502 => ((heronryref21_Same.f kj5 bt502.1 bt502.2 l0_0 a0_1).bind fun t506 => (some t506))) else (none)))) else (none)) else (none)) else (none)))) else (none)) else (none)))) else (none)) else (none)))) else (none)))) else (none))))))) = some r := H
    have A14 := Aside0.mk A140
    clear A140
    replace H := Option.bind_eq_some_iff.mp H
    obtain ⟨⟨t451, t454, t455⟩, A150, H⟩ := H
    replace H : ((sched_Drop.f kj5 t440 t443 a1).bind fun bt457 => ((heronryref21_Drop.f kj5 l0_0 a0_1 a1).bind fun bt463 => ((sched_Pick.f kj5 t440 t443 l3).bind fun bt469 => ((heronryref21_Pick.f kj5 l0_0 a0_1 l3).bind fun bt476 => (if t439 = true then ((sched_Sane.f kj5 t440 t443).bind fun t483 => ((heronryref21_Sane.f kj5 l0_0 a0_1).bind fun t484 => (if (t483 == t484) = true then ((heronrylaw21_theirs.f kj5 t445 t448).bind fun bt485 => ((heronryref21_Same.f kj5 bt485.1 bt485.2 t451 t454).bind fun t489 => (if t489 = true then (if t449 = t455 then ((heronrylaw21_theirs.f kj5 bt457.1 bt457.2.1).bind fun bt490 => ((heronryref21_Same.f kj5 bt490.1 bt490.2 bt463.1 bt463.2.1).bind fun t494 => (if t494 = true then (if bt457.2.2 = bt463.2.2 then ((heronrylaw21_theirs.f kj5 bt469.1 bt469.2.1).bind fun bt495 => ((heronryref21_Same.f kj5 bt495.1 bt495.2 bt476.1 bt476.2.1).bind fun t499 => (if t499 = true then (if bt469.2.2.1 = bt476.2.2.1 then (if bt469.2.2.2 = bt476.2.2.2 then ((sched_Bound.f kj5 t440 t443).bind fun t500 => ((heronryref21_Bound.f kj5 l0_0 a0_1).bind fun t501 => (if t500 = t501 then ((heronrylaw21_theirs.f kj5 t440 t443).bind fun bt502 => ((heronryref21_Same.f kj5 bt502.1 bt502.2 l0_0 a0_1).bind fun t506 => (some t506))) else (none)))) else (none)) else (none)) else (none)))) else (none)) else (none)))) else (none)) else (none)))) else (none)))) else (none)))))) = some r := H
    have A15 := Aside0.mk A150
    clear A150
    replace H := Option.bind_eq_some_iff.mp H
    obtain ⟨⟨t457, t460, t461⟩, A160, H⟩ := H
    replace H : ((heronryref21_Drop.f kj5 l0_0 a0_1 a1).bind fun bt463 => ((sched_Pick.f kj5 t440 t443 l3).bind fun bt469 => ((heronryref21_Pick.f kj5 l0_0 a0_1 l3).bind fun bt476 => (if t439 = true then ((sched_Sane.f kj5 t440 t443).bind fun t483 => ((heronryref21_Sane.f kj5 l0_0 a0_1).bind fun t484 => (if (t483 == t484) = true then ((heronrylaw21_theirs.f kj5 t445 t448).bind fun bt485 => ((heronryref21_Same.f kj5 bt485.1 bt485.2 t451 t454).bind fun t489 => (if t489 = true then (if t449 = t455 then ((heronrylaw21_theirs.f kj5 t457 t460).bind fun bt490 => ((heronryref21_Same.f kj5 bt490.1 bt490.2 bt463.1 bt463.2.1).bind fun t494 => (if t494 = true then (if t461 = bt463.2.2 then ((heronrylaw21_theirs.f kj5 bt469.1 bt469.2.1).bind fun bt495 => ((heronryref21_Same.f kj5 bt495.1 bt495.2 bt476.1 bt476.2.1).bind fun t499 => (if t499 = true then (if bt469.2.2.1 = bt476.2.2.1 then (if bt469.2.2.2 = bt476.2.2.2 then ((sched_Bound.f kj5 t440 t443).bind fun t500 => ((heronryref21_Bound.f kj5 l0_0 a0_1).bind fun t501 => (if t500 = t501 then ((heronrylaw21_theirs.f kj5 t440 t443).bind fun bt502 => ((heronryref21_Same.f kj5 bt502.1 bt502.2 l0_0 a0_1).bind fun t506 => (some t506))) else (none)))) else (none)) else (none)) else (none)))) else (none)) else (none)))) else (none)) else (none)))) else (none)))) else (none))))) = some r := H
    have A16 := Aside0.mk A160
    clear A160
    replace H := Option.bind_eq_some_iff.mp H
    obtain ⟨⟨t463, t466, t467⟩, A170, H⟩ := H
    replace H : ((sched_Pick.f kj5 t440 t443 l3).bind fun bt469 => ((heronryref21_Pick.f kj5 l0_0 a0_1 l3).bind fun bt476 => (if t439 = true then ((sched_Sane.f kj5 t440 t443).bind fun t483 => ((heronryref21_Sane.f kj5 l0_0 a0_1).bind fun t484 => (if (t483 == t484) = true then ((heronrylaw21_theirs.f kj5 t445 t448).bind fun bt485 => ((heronryref21_Same.f kj5 bt485.1 bt485.2 t451 t454).bind fun t489 => (if t489 = true then (if t449 = t455 then ((heronrylaw21_theirs.f kj5 t457 t460).bind fun bt490 => ((heronryref21_Same.f kj5 bt490.1 bt490.2 t463 t466).bind fun t494 => (if t494 = true then (if t461 = t467 then ((heronrylaw21_theirs.f kj5 bt469.1 bt469.2.1).bind fun bt495 => ((heronryref21_Same.f kj5 bt495.1 bt495.2 bt476.1 bt476.2.1).bind fun t499 => (if t499 = true then (if bt469.2.2.1 = bt476.2.2.1 then (if bt469.2.2.2 = bt476.2.2.2 then ((sched_Bound.f kj5 t440 t443).bind fun t500 => ((heronryref21_Bound.f kj5 l0_0 a0_1).bind fun t501 => (if t500 = t501 then ((heronrylaw21_theirs.f kj5 t440 t443).bind fun bt502 => ((heronryref21_Same.f kj5 bt502.1 bt502.2 l0_0 a0_1).bind fun t506 => (some t506))) else (none)))) else (none)) else (none)) else (none)))) else (none)) else (none)))) else (none)) else (none)))) else (none)))) else (none)))) = some r := H
    have A17 := Aside0.mk A170
    clear A170
    replace H := Option.bind_eq_some_iff.mp H
    obtain ⟨⟨t469, t472, t473, t474⟩, A180, H⟩ := H
    replace H : ((heronryref21_Pick.f kj5 l0_0 a0_1 l3).bind fun bt476 => (if t439 = true then ((sched_Sane.f kj5 t440 t443).bind fun t483 => ((heronryref21_Sane.f kj5 l0_0 a0_1).bind fun t484 => (if (t483 == t484) = true then ((heronrylaw21_theirs.f kj5 t445 t448).bind fun bt485 => ((heronryref21_Same.f kj5 bt485.1 bt485.2 t451 t454).bind fun t489 => (if t489 = true then (if t449 = t455 then ((heronrylaw21_theirs.f kj5 t457 t460).bind fun bt490 => ((heronryref21_Same.f kj5 bt490.1 bt490.2 t463 t466).bind fun t494 => (if t494 = true then (if t461 = t467 then ((heronrylaw21_theirs.f kj5 t469 t472).bind fun bt495 => ((heronryref21_Same.f kj5 bt495.1 bt495.2 bt476.1 bt476.2.1).bind fun t499 => (if t499 = true then (if t473 = bt476.2.2.1 then (if t474 = bt476.2.2.2 then ((sched_Bound.f kj5 t440 t443).bind fun t500 => ((heronryref21_Bound.f kj5 l0_0 a0_1).bind fun t501 => (if t500 = t501 then ((heronrylaw21_theirs.f kj5 t440 t443).bind fun bt502 => ((heronryref21_Same.f kj5 bt502.1 bt502.2 l0_0 a0_1).bind fun t506 => (some t506))) else (none)))) else (none)) else (none)) else (none)))) else (none)) else (none)))) else (none)) else (none)))) else (none)))) else (none))) = some r := H
    have A18 := Aside0.mk A180
    clear A180
    replace H := Option.bind_eq_some_iff.mp H
    obtain ⟨⟨t476, t479, t480, t481⟩, A190, H⟩ := H
    replace H : (if t439 = true then ((sched_Sane.f kj5 t440 t443).bind fun t483 => ((heronryref21_Sane.f kj5 l0_0 a0_1).bind fun t484 => (if (t483 == t484) = true then ((heronrylaw21_theirs.f kj5 t445 t448).bind fun bt485 => ((heronryref21_Same.f kj5 bt485.1 bt485.2 t451 t454).bind fun t489 => (if t489 = true then (if t449 = t455 then ((heronrylaw21_theirs.f kj5 t457 t460).bind fun bt490 => ((heronryref21_Same.f kj5 bt490.1 bt490.2 t463 t466).bind fun t494 => (if t494 = true then (if t461 = t467 then ((heronrylaw21_theirs.f kj5 t469 t472).bind fun bt495 => ((heronryref21_Same.f kj5 bt495.1 bt495.2 t476 t479).bind fun t499 => (if t499 = true then (if t473 = t480 then (if t474 = t481 then ((sched_Bound.f kj5 t440 t443).bind fun t500 => ((heronryref21_Bound.f kj5 l0_0 a0_1).bind fun t501 => (if t500 = t501 then ((heronrylaw21_theirs.f kj5 t440 t443).bind fun bt502 => ((heronryref21_Same.f kj5 bt502.1 bt502.2 l0_0 a0_1).bind fun t506 => (some t506))) else (none)))) else (none)) else (none)) else (none)))) else (none)) else (none)))) else (none)) else (none)))) else (none)))) else (none)) = some r := H
    have A19 := Aside0.mk A190
    clear A190
    by_cases c20 : t439 = true
    ·subst c20
     have H1 : ((sched_Sane.f kj5 t440 t443).bind fun t483 => ((heronryref21_Sane.f kj5 l0_0 a0_1).bind fun t484 => (if (t483 == t484) = true then ((heronrylaw21_theirs.f kj5 t445 t448).bind fun bt485 => ((heronryref21_Same.f kj5 bt485.1 bt485.2 t451 t454).bind fun t489 => (if t489 = true then (if t449 = t455 then ((heronrylaw21_theirs.f kj5 t457 t460).bind fun bt490 => ((heronryref21_Same.f kj5 bt490.1 bt490.2 t463 t466).bind fun t494 => (if t494 = true then (if t461 = t467 then ((heronrylaw21_theirs.f kj5 t469 t472).bind fun bt495 => ((heronryref21_Same.f kj5 bt495.1 bt495.2 t476 t479).bind fun t499 => (if t499 = true then (if t473 = t480 then (if t474 = t481 then ((sched_Bound.f kj5 t440 t443).bind fun t500 => ((heronryref21_Bound.f kj5 l0_0 a0_1).bind fun t501 => (if t500 = t501 then ((heronrylaw21_theirs.f kj5 t440 t443).bind fun bt502 => ((heronryref21_Same.f kj5 bt502.1 bt502.2 l0_0 a0_1).bind fun t506 => (some t506))) else (none)))) else (none)) else (none)) else (none)))) else (none)) else (none)))) else (none)) else (none)))) else (none)))) = some r := by rw [if_pos rfl] at H; exact H
     clear H
     have H := H1
     clear H1
     replace H := Option.bind_eq_some_iff.mp H
     obtain ⟨t483, A210, H⟩ := H
     replace H : ((heronryref21_Sane.f kj5 l0_0 a0_1).bind fun t484 => (if (t483 == t484) = true then ((heronrylaw21_theirs.f kj5 t445 t448).bind fun bt485 => ((heronryref21_Same.f kj5 bt485.1 bt485.2 t451 t454).bind fun t489 => (if t489 = true then (if t449 = t455 then ((heronrylaw21_theirs.f kj5 t457 t460).bind fun bt490 => ((heronryref21_Same.f kj5 bt490.1 bt490.2 t463 t466).bind fun t494 => (if t494 = true then (if t461 = t467 then ((heronrylaw21_theirs.f kj5 t469 t472).bind fun bt495 => ((heronryref21_Same.f kj5 bt495.1 bt495.2 t476 t479).bind fun t499 => (if t499 = true then (if t473 = t480 then (if t474 = t481 then ((sched_Bound.f kj5 t440 t443).bind fun t500 => ((heronryref21_Bound.f kj5 l0_0 a0_1).bind fun t501 => (if t500 = t501 then ((heronrylaw21_theirs.f kj5 t440 t443).bind fun bt502 => ((heronryref21_Same.f kj5 bt502.1 bt502.2 l0_0 a0_1).bind fun t506 => (some t506))) else (none)))) else (none)) else (none)) else (none)))) else (none)) else (none)))) else (none)) else (none)))) else (none))) = some r := H
     have A21 := Aside0.mk A210
     clear A210
     replace H := Option.bind_eq_some_iff.mp H
     obtain ⟨t484, A220, H⟩ := H
     replace H : (if (t483 == t484) = true then ((heronrylaw21_theirs.f kj5 t445 t448).bind fun bt485 => ((heronryref21_Same.f kj5 bt485.1 bt485.2 t451 t454).bind fun t489 => (if t489 = true then (if t449 = t455 then ((heronrylaw21_theirs.f kj5 t457 t460).bind fun bt490 => ((heronryref21_Same.f kj5 bt490.1 bt490.2 t463 t466).bind fun t494 => (if t494 = true then (if t461 = t467 then ((heronrylaw21_theirs.f kj5 t469 t472).bind fun bt495 => ((heronryref21_Same.f kj5 bt495.1 bt495.2 t476 t479).bind fun t499 => (if t499 = true then (if t473 = t480 then (if t474 = t481 then ((sched_Bound.f kj5 t440 t443).bind fun t500 => ((heronryref21_Bound.f kj5 l0_0 a0_1).bind fun t501 => (if t500 = t501 then ((heronrylaw21_theirs.f kj5 t440 t443).bind fun bt502 => ((heronryref21_Same.f kj5 bt502.1 bt502.2 l0_0 a0_1).bind fun t506 => (some t506))) else (none)))) else (none)) else (none)) else (none)))) else (none)) else (none)))) else (none)) else (none)))) else (none)) = some r := H
     have A22 := Aside0.mk A220
     clear A220
     by_cases c23 : (t483 == t484) = true
     ·rw [if_pos c23] at H
      have c23b0 : (t483 == t484) = true := c23
      (try (have c23b1 : decide (t483 = t484) = true := by simpa using c23))
      (try (have c23b2 : (t483 == t484) = true := by simpa using c23))
      clear c23
      replace H := Option.bind_eq_some_iff.mp H
      obtain ⟨⟨t485, t488⟩, A240, H⟩ := H
      replace H : ((heronryref21_Same.f kj5 t485 t488 t451 t454).bind fun t489 => (if t489 = true then (if t449 = t455 then ((heronrylaw21_theirs.f kj5 t457 t460).bind fun bt490 => ((heronryref21_Same.f kj5 bt490.1 bt490.2 t463 t466).bind fun t494 => (if t494 = true then (if t461 = t467 then ((heronrylaw21_theirs.f kj5 t469 t472).bind fun bt495 => ((heronryref21_Same.f kj5 bt495.1 bt495.2 t476 t479).bind fun t499 => (if t499 = true then (if t473 = t480 then (if t474 = t481 then ((sched_Bound.f kj5 t440 t443).bind fun t500 => ((heronryref21_Bound.f kj5 l0_0 a0_1).bind fun t501 => (if t500 = t501 then ((heronrylaw21_theirs.f kj5 t440 t443).bind fun bt502 => ((heronryref21_Same.f kj5 bt502.1 bt502.2 l0_0 a0_1).bind fun t506 => (some t506))) else (none)))) else (none)) else (none)) else (none)))) else (none)) else (none)))) else (none)) else (none))) = some r := H
      have A24 := Aside0.mk A240
      clear A240
      replace H := Option.bind_eq_some_iff.mp H
      obtain ⟨t489, A250, H⟩ := H
      replace H : (if t489 = true then (if t449 = t455 then ((heronrylaw21_theirs.f kj5 t457 t460).bind fun bt490 => ((heronryref21_Same.f kj5 bt490.1 bt490.2 t463 t466).bind fun t494 => (if t494 = true then (if t461 = t467 then ((heronrylaw21_theirs.f kj5 t469 t472).bind fun bt495 => ((heronryref21_Same.f kj5 bt495.1 bt495.2 t476 t479).bind fun t499 => (if t499 = true then (if t473 = t480 then (if t474 = t481 then ((sched_Bound.f kj5 t440 t443).bind fun t500 => ((heronryref21_Bound.f kj5 l0_0 a0_1).bind fun t501 => (if t500 = t501 then ((heronrylaw21_theirs.f kj5 t440 t443).bind fun bt502 => ((heronryref21_Same.f kj5 bt502.1 bt502.2 l0_0 a0_1).bind fun t506 => (some t506))) else (none)))) else (none)) else (none)) else (none)))) else (none)) else (none)))) else (none)) else (none)) = some r := H
      have A25 := Aside0.mk A250
      clear A250
      by_cases c26 : t489 = true
      ·subst c26
       have H1 : (if t449 = t455 then ((heronrylaw21_theirs.f kj5 t457 t460).bind fun bt490 => ((heronryref21_Same.f kj5 bt490.1 bt490.2 t463 t466).bind fun t494 => (if t494 = true then (if t461 = t467 then ((heronrylaw21_theirs.f kj5 t469 t472).bind fun bt495 => ((heronryref21_Same.f kj5 bt495.1 bt495.2 t476 t479).bind fun t499 => (if t499 = true then (if t473 = t480 then (if t474 = t481 then ((sched_Bound.f kj5 t440 t443).bind fun t500 => ((heronryref21_Bound.f kj5 l0_0 a0_1).bind fun t501 => (if t500 = t501 then ((heronrylaw21_theirs.f kj5 t440 t443).bind fun bt502 => ((heronryref21_Same.f kj5 bt502.1 bt502.2 l0_0 a0_1).bind fun t506 => (some t506))) else (none)))) else (none)) else (none)) else (none)))) else (none)) else (none)))) else (none)) = some r := by rw [if_pos rfl] at H; exact H
       clear H
       have H := H1
       clear H1
       by_cases c27 : t449 = t455
       ·rw [if_pos c27] at H
        have c27b0 : (t449 == t455) = true := beq_iff_eq.mpr c27
        have c27b1 : (t449 != t455) = false := bne_eq_false_iff_eq.mpr c27
        clear c27
        replace H := Option.bind_eq_some_iff.mp H
        obtain ⟨⟨t490, t493⟩, A280, H⟩ := H
        replace H : ((heronryref21_Same.f kj5 t490 t493 t463 t466).bind fun t494 => (if t494 = true then (if t461 = t467 then ((heronrylaw21_theirs.f kj5 t469 t472).bind fun bt495 => ((heronryref21_Same.f kj5 bt495.1 bt495.2 t476 t479).bind fun t499 => (if t499 = true then (if t473 = t480 then (if t474 = t481 then ((sched_Bound.f kj5 t440 t443).bind fun t500 => ((heronryref21_Bound.f kj5 l0_0 a0_1).bind fun t501 => (if t500 = t501 then ((heronrylaw21_theirs.f kj5 t440 t443).bind fun bt502 => ((heronryref21_Same.f kj5 bt502.1 bt502.2 l0_0 a0_1).bind fun t506 => (some t506))) else (none)))) else (none)) else (none)) else (none)))) else (none)) else (none))) = some r := H
        have A28 := Aside0.mk A280
        clear A280
        replace H := Option.bind_eq_some_iff.mp H
        obtain ⟨t494, A290, H⟩ := H
        replace H : (if t494 = true then (if t461 = t467 then ((heronrylaw21_theirs.f kj5 t469 t472).bind fun bt495 => ((heronryref21_Same.f kj5 bt495.1 bt495.2 t476 t479).bind fun t499 => (if t499 = true then (if t473 = t480 then (if t474 = t481 then ((sched_Bound.f kj5 t440 t443).bind fun t500 => ((heronryref21_Bound.f kj5 l0_0 a0_1).bind fun t501 => (if t500 = t501 then ((heronrylaw21_theirs.f kj5 t440 t443).bind fun bt502 => ((heronryref21_Same.f kj5 bt502.1 bt502.2 l0_0 a0_1).bind fun t506 => (some t506))) else (none)))) else (none)) else (none)) else (none)))) else (none)) else (none)) = some r := H
        have A29 := Aside0.mk A290
        clear A290
        by_cases c30 : t494 = true
        ·subst c30
         have H1 : (if t461 = t467 then ((heronrylaw21_theirs.f kj5 t469 t472).bind fun bt495 => ((heronryref21_Same.f kj5 bt495.1 bt495.2 t476 t479).bind fun t499 => (if t499 = true then (if t473 = t480 then (if t474 = t481 then ((sched_Bound.f kj5 t440 t443).bind fun t500 => ((heronryref21_Bound.f kj5 l0_0 a0_1).bind fun t501 => (if t500 = t501 then ((heronrylaw21_theirs.f kj5 t440 t443).bind fun bt502 => ((heronryref21_Same.f kj5 bt502.1 bt502.2 l0_0 a0_1).bind fun t506 => (some t506))) else (none)))) else (none)) else (none)) else (none)))) else (none)) = some r := by rw [if_pos rfl] at H; exact H
         clear H
         have H := H1
         clear H1
         by_cases c31 : t461 = t467
         ·rw [if_pos c31] at H
          have c31b0 : (t461 == t467) = true := beq_iff_eq.mpr c31
          have c31b1 : (t461 != t467) = false := bne_eq_false_iff_eq.mpr c31
          clear c31
          replace H := Option.bind_eq_some_iff.mp H
          obtain ⟨⟨t495, t498⟩, A320, H⟩ := H
          replace H : ((heronryref21_Same.f kj5 t495 t498 t476 t479).bind fun t499 => (if t499 = true then (if t473 = t480 then (if t474 = t481 then ((sched_Bound.f kj5 t440 t443).bind fun t500 => ((heronryref21_Bound.f kj5 l0_0 a0_1).bind fun t501 => (if t500 = t501 then ((heronrylaw21_theirs.f kj5 t440 t443).bind fun bt502 => ((heronryref21_Same.f kj5 bt502.1 bt502.2 l0_0 a0_1).bind fun t506 => (some t506))) else (none)))) else (none)) else (none)) else (none))) = some r := H
          have A32 := Aside0.mk A320
          clear A320
          replace H := Option.bind_eq_some_iff.mp H
          obtain ⟨t499, A330, H⟩ := H
          replace H : (if t499 = true then (if t473 = t480 then (if t474 = t481 then ((sched_Bound.f kj5 t440 t443).bind fun t500 => ((heronryref21_Bound.f kj5 l0_0 a0_1).bind fun t501 => (if t500 = t501 then ((heronrylaw21_theirs.f kj5 t440 t443).bind fun bt502 => ((heronryref21_Same.f kj5 bt502.1 bt502.2 l0_0 a0_1).bind fun t506 => (some t506))) else (none)))) else (none)) else (none)) else (none)) = some r := H
          have A33 := Aside0.mk A330
          clear A330
          by_cases c34 : t499 = true
          ·subst c34
           have H1 : (if t473 = t480 then (if t474 = t481 then ((sched_Bound.f kj5 t440 t443).bind fun t500 => ((heronryref21_Bound.f kj5 l0_0 a0_1).bind fun t501 => (if t500 = t501 then ((heronrylaw21_theirs.f kj5 t440 t443).bind fun bt502 => ((heronryref21_Same.f kj5 bt502.1 bt502.2 l0_0 a0_1).bind fun t506 => (some t506))) else (none)))) else (none)) else (none)) = some r := by rw [if_pos rfl] at H; exact H
           clear H
           have H := H1
           clear H1
           by_cases c35 : t473 = t480
           ·rw [if_pos c35] at H
            have c35b0 : (t473 == t480) = true := beq_iff_eq.mpr c35
            have c35b1 : (t473 != t480) = false := bne_eq_false_iff_eq.mpr c35
            clear c35
            by_cases c36 : t474 = t481
            ·rw [if_pos c36] at H
             have c36b0 : (t474 == t481) = true := beq_iff_eq.mpr c36
             have c36b1 : (t474 != t481) = false := bne_eq_false_iff_eq.mpr c36
             clear c36
             replace H := Option.bind_eq_some_iff.mp H
             obtain ⟨t500, A370, H⟩ := H
             replace H : ((heronryref21_Bound.f kj5 l0_0 a0_1).bind fun t501 => (if t500 = t501 then ((heronrylaw21_theirs.f kj5 t440 t443).bind fun bt502 => ((heronryref21_Same.f kj5 bt502.1 bt502.2 l0_0 a0_1).bind fun t506 => (some t506))) else (none))) = some r := H
             have A37 := Aside0.mk A370
             clear A370
             replace H := Option.bind_eq_some_iff.mp H
             obtain ⟨t501, A380, H⟩ := H
             replace H : (if t500 = t501 then ((heronrylaw21_theirs.f kj5 t440 t443).bind fun bt502 => ((heronryref21_Same.f kj5 bt502.1 bt502.2 l0_0 a0_1).bind fun t506 => (some t506))) else (none)) = some r := H
             have A38 := Aside0.mk A380
             clear A380
             by_cases c39 : t500 = t501
             ·rw [if_pos c39] at H
              have c39b0 : (t500 == t501) = true := beq_iff_eq.mpr c39
              have c39b1 : (t500 != t501) = false := bne_eq_false_iff_eq.mpr c39
              clear c39
              replace H := Option.bind_eq_some_iff.mp H
              obtain ⟨⟨t502, t505⟩, A400, H⟩ := H
              replace H : ((heronryref21_Same.f kj5 t502 t505 l0_0 a0_1).bind fun t506 => (some t506)) = some r := H
              have A40 := Aside0.mk A400
              clear A400
              replace H := Option.bind_eq_some_iff.mp H
              obtain ⟨t506, A410, H⟩ := H
              replace H : (some t506) = some r := H
              have A41 := Aside0.mk A410
              clear A410
              obtain rfl := Option.some.inj H
              have hcz42_0 : wc.cell? ⟨gb438, 0, none⟩ = some (.slice A0_0 l0_0.length c0_0) := (blk_cell BK438.out 0).trans rfl
              have hcz42_1 : wc.cell? ⟨gb438, 1, none⟩ = some (.int .i64 a0_1) := (blk_cell BK438.out 1).trans rfl
              have hfz42_0 := blk_frozen BK438.out 0
              have hfz42_1 := blk_frozen BK438.out 1
              try go_wp2_with (first | ((with_reducible refine gate_callee (f := 14) rfl ?_); refine goesL_ (some 37) rfl rfl Try.func14 (by kernel_rfl) rfl #[.agg #[.slice A0_0 l0_0.length c0_0, .int .i64 a0_1]] rfl (by (try simp only [List.map_toArray, List.map_cons, List.map_nil]); first | done | rfl | (simp only [List.length_drop, List.length_take]; rfl)) ?_; (with_reducible refine (heronrylaw21_ours.calls kj5 _ _ l0_0 a0_1 t440 t443 _ ?side1 ?side2 A13.out).mono ?_); (case side1 => repeat (first | exact (Kd.C_below HR0_0.out HB.out) | (with_reducible refine Kd.C_alloc ?_ _) | (with_reducible refine Kd.C_drewN ?_ _) | (with_reducible refine Kd.C_drew ?_))); (case side2 => exact HC0_0.out); rintro e w43 ⟨v441, rfl, ho0, hb⟩; refine ⟨_, rfl, ?_⟩; have n0_ := Aside0.mk (Kd.R_lower ho0 (below_size (by repeat (first | (with_reducible first | exact HB.out | apply below_alloc | apply pw_below_drewN | apply below_drew1 | refine below_set ?_ GE438.out) | exact HB.out)))); have n1_ := Aside0.mk (blk_below (g := gb438) (o := .cells #[.slice A0_0 l0_0.length c0_0, .int .i64 a0_1] 39 (0, 0)) (by (with_reducible repeat (first | refine blk_drewN ?_ _ | refine blk_drew ?_ | refine blk_alloc ?_ _)); exact BK438.out) hb); have n2_ := Aside0.mk (below_step (by repeat (first | (with_reducible first | exact HB.out | apply below_alloc | apply pw_below_drewN | apply below_drew1 | refine below_set ?_ GE438.out) | exact HB.out)) hb); clear BK438; clear HB; have HO442 := n0_; have BK438 := n1_; have HB := n2_; clear n0_ n1_ n2_; (try clear hb); (try clear hb2); (try clear hk); (try clear hi); (try clear ho0)) | ((with_reducible refine gate_dst (N := 10) rfl ?_); (try (refine gate_guard (by rfl) ?_; dsimp only)); refine box_event ?hg (N := 10) ?hd (cs := #[.slice none 0 0, .int .i64 0]) (t := 26) ?hr ?_; (case hd => rfl); (case hg => rfl); (case hr => first | (go_simp; done) | (go_simp; rfl)); intro gb444 hg w44 hbox hb; have n0_ := Aside0.mk (Kd.R_below (by (with_reducible repeat (first | apply Kd.R_alloc | apply Kd.R_drewN | apply Kd.R_drew)); exact HO442.out) hb); have n1_ := Aside0.mk (blk_below (g := gb438) (o := .cells #[.slice A0_0 l0_0.length c0_0, .int .i64 a0_1] 39 (0, 0)) (by (with_reducible repeat (first | refine blk_drewN ?_ _ | refine blk_drew ?_ | refine blk_alloc ?_ _)); exact BK438.out) hb); have n2_ := Aside0.mk (below_step (by repeat (first | (with_reducible first | exact HB.out | apply below_alloc | apply pw_below_drewN | apply below_drew1 | refine below_set ?_ GE438.out) | exact HB.out)) hb); have n3_ := Aside0.mk (hbox); have n4_ := Aside0.mk ((by rw [hg]; exact (below_size (by repeat (first | (with_reducible first | exact HB.out | apply below_alloc | apply pw_below_drewN | apply below_drew1 | refine below_set ?_ GE438.out) | exact HB.out))) : w.heap.size ≤ gb444)); have n5_ := Aside0.mk ((by rw [hg]; exact (below_size (by repeat (first | (with_reducible first | exact HB.out | apply below_alloc | apply pw_below_drewN | apply below_drew1 | refine below_set ?_ GE438.out) | exact HB.out))) : w.heap.size ≤ gb444)); have n6_ := Aside0.mk ((by rw [hg]; exact Nat.ne_of_lt (blk_lt (g := gb438) (o := .cells #[.slice A0_0 l0_0.length c0_0, .int .i64 a0_1] 39 (0, 0)) (by (with_reducible repeat (first | refine blk_drewN ?_ _ | refine blk_drew ?_ | refine blk_alloc ?_ _)); exact BK438.out)) : gb438 ≠ gb444)); have n7_ := Aside0.mk ((by rw [hg]; exact Nat.ne_of_gt (blk_lt (g := gb438) (o := .cells #[.slice A0_0 l0_0.length c0_0, .int .i64 a0_1] 39 (0, 0)) (by (with_reducible repeat (first | refine blk_drewN ?_ _ | refine blk_drew ?_ | refine blk_alloc ?_ _)); exact BK438.out)) : gb444 ≠ gb438)); clear HO442; clear BK438; clear HB; have HO442 := n0_; have BK438 := n1_; have HB := n2_; have BK444 := n3_; have GW444 := n4_; have GE444 := n5_; have NB438_444 := n6_; have NB444_438 := n7_; clear n0_ n1_ n2_ n3_ n4_ n5_ n6_ n7_; clear hb hbox hg; obtain ⟨Ao45, co45, eo45⟩ := Kd.R_slice HO442.out; subst eo45; have hnb46 := NB444_438.out; have hnc46 := NB438_444.out; have hcz47_0 : w44.cell? ⟨gb444, 0, none⟩ = some (.slice none 0 0) := (blk_cell BK444.out 0).trans rfl; have hcz47_1 : w44.cell? ⟨gb444, 1, none⟩ = some (.int .i64 0) := (blk_cell BK444.out 1).trans rfl; have hfz47_0 := blk_frozen BK444.out 0; have hfz47_1 := blk_frozen BK444.out 1) | ((with_reducible refine gate_callee (f := 10) rfl ?_); refine goesL_ (some 42) rfl rfl Try.func10 (by kernel_rfl) rfl #[.agg #[.slice Ao45 t440.length co45, .int .i64 t443], .int .i64 a1, .int .u64 a2] rfl (by (try simp only [List.map_toArray, List.map_cons, List.map_nil]); first | done | rfl | (simp only [List.length_drop, List.length_take]; rfl)) ?_; (with_reducible refine (sched_Add.calls kj5 _ _ t440 t443 a1 a2 t445 t448 t449 _ ?side1 ?side2 A14.out).mono ?_); (case side1 => refine (Kd.R_reads' (e := 44) (base := w.heap.size) (ok := fun k_ => True) (n := t440.length) (c := co45) ?_).2.2; exact (by (with_reducible repeat (first | apply Kd.R_alloc | apply Kd.R_drewN | apply Kd.R_drew)); exact (Kd.R_mono (Kd.R_far (p := ⟨gb444, 1, none⟩) (Kd.R_far (p := ⟨gb444, 0, none⟩) (Kd.R_types HO442.out BK444.out (by decide)) (fun _ hk => hk.2) (.slice Ao45 t440.length co45)) (fun _ hk => hk.2) (.int .i64 t443)) (fun _ h_ => h_.1)))); (case side2 => exact (Kd.R_reads' HO442.out).2.1); rintro e w48 ⟨v446, rfl, ho0, hb⟩; refine ⟨_, rfl, ?_⟩; have n0_ := Aside0.mk (Kd.R_elder' (by (with_reducible repeat (first | apply Kd.R_alloc | apply Kd.R_drewN | apply Kd.R_drew)); exact (Kd.R_mono (Kd.R_far (p := ⟨gb444, 1, none⟩) (Kd.R_far (p := ⟨gb444, 0, none⟩) (Kd.R_types HO442.out BK444.out (by decide)) (fun _ hk => hk.2) (.slice Ao45 t440.length co45)) (fun _ hk => hk.2) (.int .i64 t443)) (fun _ h_ => h_.1))) (Kd.R_base ho0) hb); have n1_ := Aside0.mk (Kd.R_lower (Kd.R_new' ho0 (Kd.R_lt (by (with_reducible repeat (first | apply Kd.R_alloc | apply Kd.R_drewN | apply Kd.R_drew)); exact (Kd.R_mono (Kd.R_far (p := ⟨gb444, 1, none⟩) (Kd.R_far (p := ⟨gb444, 0, none⟩) (Kd.R_types HO442.out BK444.out (by decide)) (fun _ hk => hk.2) (.slice Ao45 t440.length co45)) (fun _ hk => hk.2) (.int .i64 t443)) (fun _ h_ => h_.1))))) (below_size (by repeat (first | (with_reducible first | exact HB.out | apply below_alloc | apply pw_below_drewN | apply below_drew1 | refine below_set ?_ GE438.out | refine below_set ?_ GE444.out) | exact HB.out)))); have n2_ := Aside0.mk (blk_below (g := gb438) (o := .cells #[.slice A0_0 l0_0.length c0_0, .int .i64 a0_1] 39 (0, 0)) (by (with_reducible repeat (first | refine blk_drewN ?_ _ | refine blk_drew ?_ | refine blk_alloc ?_ _)); refine blk_far ?_ NB438_444.out _; (with_reducible repeat (first | refine blk_drewN ?_ _ | refine blk_drew ?_ | refine blk_alloc ?_ _)); refine blk_far ?_ NB438_444.out _; (with_reducible repeat (first | refine blk_drewN ?_ _ | refine blk_drew ?_ | refine blk_alloc ?_ _)); exact BK438.out) hb); have n3_ := Aside0.mk (blk_below (g := gb444) (o := .cells #[.slice Ao45 t440.length co45, .int .i64 t443] 26 (0, 0)) (by (with_reducible repeat (first | refine blk_drewN ?_ _ | refine blk_drew ?_ | refine blk_alloc ?_ _)); refine blk_put (cs := #[.slice Ao45 t440.length co45, .int .i64 0]) ?_ 1 _ rfl; (with_reducible repeat (first | refine blk_drewN ?_ _ | refine blk_drew ?_ | refine blk_alloc ?_ _)); refine blk_put (cs := #[.slice none 0 0, .int .i64 0]) ?_ 0 _ rfl; (with_reducible repeat (first | refine blk_drewN ?_ _ | refine blk_drew ?_ | refine blk_alloc ?_ _)); exact BK444.out) hb); have n4_ := Aside0.mk (below_step (by repeat (first | (with_reducible first | exact HB.out | apply below_alloc | apply pw_below_drewN | apply below_drew1 | refine below_set ?_ GE438.out | refine below_set ?_ GE444.out) | exact HB.out)) hb); clear HO442; clear BK438; clear BK444; clear HB; have HO442 := n0_; have HO447 := n1_; have BK438 := n2_; have BK444 := n3_; have HB := n4_; clear n0_ n1_ n2_ n3_ n4_; (try clear hb); (try clear hb2); (try clear hk); (try clear hi); (try clear ho0)) | ((with_reducible refine gate_dst (N := 11) rfl ?_); (try (refine gate_guard (by rfl) ?_; dsimp only)); refine box_event ?hg (N := 11) ?hd (cs := #[.slice none 0 0, .int .i64 0]) (t := 26) ?hr ?_; (case hd => rfl); (case hg => rfl); (case hr => first | (go_simp; done) | (go_simp; rfl)); intro gb450 hg w49 hbox hb; have n0_ := Aside0.mk (Kd.R_below (by (with_reducible repeat (first | apply Kd.R_alloc | apply Kd.R_drewN | apply Kd.R_drew)); exact HO442.out) hb); have n1_ := Aside0.mk (Kd.R_below (by (with_reducible repeat (first | apply Kd.R_alloc | apply Kd.R_drewN | apply Kd.R_drew)); exact HO447.out) hb); have n2_ := Aside0.mk (blk_below (g := gb438) (o := .cells #[.slice A0_0 l0_0.length c0_0, .int .i64 a0_1] 39 (0, 0)) (by (with_reducible repeat (first | refine blk_drewN ?_ _ | refine blk_drew ?_ | refine blk_alloc ?_ _)); exact BK438.out) hb); have n3_ := Aside0.mk (blk_below (g := gb444) (o := .cells #[.slice Ao45 t440.length co45, .int .i64 t443] 26 (0, 0)) (by (with_reducible repeat (first | refine blk_drewN ?_ _ | refine blk_drew ?_ | refine blk_alloc ?_ _)); exact BK444.out) hb); have n4_ := Aside0.mk (below_step (by repeat (first | (with_reducible first | exact HB.out | apply below_alloc | apply pw_below_drewN | apply below_drew1 | refine below_set ?_ GE438.out | refine below_set ?_ GE444.out) | exact HB.out)) hb); have n5_ := Aside0.mk (hbox); have n6_ := Aside0.mk ((by rw [hg]; exact (below_size (by repeat (first | (with_reducible first | exact HB.out | apply below_alloc | apply pw_below_drewN | apply below_drew1 | refine below_set ?_ GE438.out | refine below_set ?_ GE444.out) | exact HB.out))) : w.heap.size ≤ gb450)); have n7_ := Aside0.mk ((by rw [hg]; exact (below_size (by repeat (first | (with_reducible first | exact HB.out | apply below_alloc | apply pw_below_drewN | apply below_drew1 | refine below_set ?_ GE438.out | refine below_set ?_ GE444.out) | exact HB.out))) : w.heap.size ≤ gb450)); have n8_ := Aside0.mk ((by rw [hg]; exact Nat.ne_of_lt (blk_lt (g := gb438) (o := .cells #[.slice A0_0 l0_0.length c0_0, .int .i64 a0_1] 39 (0, 0)) (by (with_reducible repeat (first | refine blk_drewN ?_ _ | refine blk_drew ?_ | refine blk_alloc ?_ _)); exact BK438.out)) : gb438 ≠ gb450)); have n9_ := Aside0.mk ((by rw [hg]; exact Nat.ne_of_gt (blk_lt (g := gb438) (o := .cells #[.slice A0_0 l0_0.length c0_0, .int .i64 a0_1] 39 (0, 0)) (by (with_reducible repeat (first | refine blk_drewN ?_ _ | refine blk_drew ?_ | refine blk_alloc ?_ _)); exact BK438.out)) : gb450 ≠ gb438)); have n10_ := Aside0.mk ((by rw [hg]; exact Nat.ne_of_lt (blk_lt (g := gb444) (o := .cells #[.slice Ao45 t440.length co45, .int .i64 t443] 26 (0, 0)) (by (with_reducible repeat (first | refine blk_drewN ?_ _ | refine blk_drew ?_ | refine blk_alloc ?_ _)); exact BK444.out)) : gb444 ≠ gb450)); have n11_ := Aside0.mk ((by rw [hg]; exact Nat.ne_of_gt (blk_lt (g := gb444) (o := .cells #[.slice Ao45 t440.length co45, .int .i64 t443] 26 (0, 0)) (by (with_reducible repeat (first | refine blk_drewN ?_ _ | refine blk_drew ?_ | refine blk_alloc ?_ _)); exact BK444.out)) : gb450 ≠ gb444)); clear HO442; clear HO447; clear BK438; clear BK444; clear HB; have HO442 := n0_; have HO447 := n1_; have BK438 := n2_; have BK444 := n3_; have HB := n4_; have BK450 := n5_; have GW450 := n6_; have GE450 := n7_; have NB438_450 := n8_; have NB450_438 := n9_; have NB444_450 := n10_; have NB450_444 := n11_; clear n0_ n1_ n2_ n3_ n4_ n5_ n6_ n7_ n8_ n9_ n10_ n11_; clear hb hbox hg; obtain ⟨Ao50, co50, eo50⟩ := Kd.R_slice HO447.out; subst eo50; have hnb51 := NB450_438.out; have hnc51 := NB438_450.out; have hnb52 := NB450_444.out; have hnc52 := NB444_450.out; have hcz53_0 : w49.cell? ⟨gb450, 0, none⟩ = some (.slice none 0 0) := (blk_cell BK450.out 0).trans rfl; have hcz53_1 : w49.cell? ⟨gb450, 1, none⟩ = some (.int .i64 0) := (blk_cell BK450.out 1).trans rfl; have hfz53_0 := blk_frozen BK450.out 0; have hfz53_1 := blk_frozen BK450.out 1; have hcz54_0 : w49.cell? ⟨gb438, 0, none⟩ = some (.slice A0_0 l0_0.length c0_0) := (blk_cell BK438.out 0).trans rfl; have hcz54_1 : w49.cell? ⟨gb438, 1, none⟩ = some (.int .i64 a0_1) := (blk_cell BK438.out 1).trans rfl; have hfz54_0 := blk_frozen BK438.out 0; have hfz54_1 := blk_frozen BK438.out 1) | ((with_reducible refine gate_callee (f := 19) rfl ?_); refine goesL_ (some 49) rfl rfl Try.func19 (by kernel_rfl) rfl #[.agg #[.slice A0_0 l0_0.length c0_0, .int .i64 a0_1], .int .i64 a1, .int .u64 a2] rfl (by (try simp only [List.map_toArray, List.map_cons, List.map_nil]); first | done | rfl | (simp only [List.length_drop, List.length_take]; rfl)) ?_; (with_reducible refine (heronryref21_Add.calls kj5 _ _ l0_0 a0_1 a1 a2 t451 t454 t455 _ ?side1 ?side2 A15.out).mono ?_); (case side1 => exact Kd.C_below HR0_0.out (by repeat (first | (with_reducible first | exact HB.out | apply below_alloc | apply pw_below_drewN | apply below_drew1 | refine below_set ?_ GE438.out | refine below_set ?_ GE444.out | refine below_set ?_ GE450.out) | exact HB.out))); (case side2 => exact HC0_0.out); rintro e w55 ⟨v452, rfl, ho0, hb⟩; refine ⟨_, rfl, ?_⟩; have n0_ := Aside0.mk (Kd.R_below (by (with_reducible repeat (first | apply Kd.R_alloc | apply Kd.R_drewN | apply Kd.R_drew)); exact (Kd.R_mono (Kd.R_far (p := ⟨gb450, 1, none⟩) (Kd.R_far (p := ⟨gb450, 0, none⟩) (Kd.R_types HO442.out BK450.out (by decide)) (fun _ hk => hk.2) (.slice Ao50 t445.length co50)) (fun _ hk => hk.2) (.int .i64 t448)) (fun _ h_ => h_.1))) hb); have n1_ := Aside0.mk (Kd.R_below (by (with_reducible repeat (first | apply Kd.R_alloc | apply Kd.R_drewN | apply Kd.R_drew)); exact (Kd.R_mono (Kd.R_far (p := ⟨gb450, 1, none⟩) (Kd.R_far (p := ⟨gb450, 0, none⟩) (Kd.R_types HO447.out BK450.out (by decide)) (fun _ hk => hk.2) (.slice Ao50 t445.length co50)) (fun _ hk => hk.2) (.int .i64 t448)) (fun _ h_ => h_.1))) hb); have n2_ := Aside0.mk (Kd.R_lower ho0 (below_size (by repeat (first | (with_reducible first | exact HB.out | apply below_alloc | apply pw_below_drewN | apply below_drew1 | refine below_set ?_ GE438.out | refine below_set ?_ GE444.out | refine below_set ?_ GE450.out) | exact HB.out)))); have n3_ := Aside0.mk (blk_below (g := gb438) (o := .cells #[.slice A0_0 l0_0.length c0_0, .int .i64 a0_1] 39 (0, 0)) (by (with_reducible repeat (first | refine blk_drewN ?_ _ | refine blk_drew ?_ | refine blk_alloc ?_ _)); refine blk_far ?_ NB438_450.out _; (with_reducible repeat (first | refine blk_drewN ?_ _ | refine blk_drew ?_ | refine blk_alloc ?_ _)); refine blk_far ?_ NB438_450.out _; (with_reducible repeat (first | refine blk_drewN ?_ _ | refine blk_drew ?_ | refine blk_alloc ?_ _)); exact BK438.out) hb); have n4_ := Aside0.mk (blk_below (g := gb444) (o := .cells #[.slice Ao45 t440.length co45, .int .i64 t443] 26 (0, 0)) (by (with_reducible repeat (first | refine blk_drewN ?_ _ | refine blk_drew ?_ | refine blk_alloc ?_ _)); refine blk_far ?_ NB444_450.out _; (with_reducible repeat (first | refine blk_drewN ?_ _ | refine blk_drew ?_ | refine blk_alloc ?_ _)); refine blk_far ?_ NB444_450.out _; (with_reducible repeat (first | refine blk_drewN ?_ _ | refine blk_drew ?_ | refine blk_alloc ?_ _)); exact BK444.out) hb); have n5_ := Aside0.mk (blk_below (g := gb450) (o := .cells #[.slice Ao50 t445.length co50, .int .i64 t448] 26 (0, 0)) (by (with_reducible repeat (first | refine blk_drewN ?_ _ | refine blk_drew ?_ | refine blk_alloc ?_ _)); refine blk_put (cs := #[.slice Ao50 t445.length co50, .int .i64 0]) ?_ 1 _ rfl; (with_reducible repeat (first | refine blk_drewN ?_ _ | refine blk_drew ?_ | refine blk_alloc ?_ _)); refine blk_put (cs := #[.slice none 0 0, .int .i64 0]) ?_ 0 _ rfl; (with_reducible repeat (first | refine blk_drewN ?_ _ | refine blk_drew ?_ | refine blk_alloc ?_ _)); exact BK450.out) hb); have n6_ := Aside0.mk (below_step (by repeat (first | (with_reducible first | exact HB.out | apply below_alloc | apply pw_below_drewN | apply below_drew1 | refine below_set ?_ GE438.out | refine below_set ?_ GE444.out | refine below_set ?_ GE450.out) | exact HB.out)) hb); clear HO442; clear HO447; clear BK438; clear BK444; clear BK450; clear HB; have HO442 := n0_; have HO447 := n1_; have HO453 := n2_; have BK438 := n3_; have BK444 := n4_; have BK450 := n5_; have HB := n6_; clear n0_ n1_ n2_ n3_ n4_ n5_ n6_; (try clear hb); (try clear hb2); (try clear hk); (try clear hi); (try clear ho0)) | ((with_reducible refine gate_dst (N := 13) rfl ?_); (try (refine gate_guard (by rfl) ?_; dsimp only)); refine box_event ?hg (N := 13) ?hd (cs := #[.slice none 0 0, .int .i64 0]) (t := 39) ?hr ?_; (case hd => rfl); (case hg => rfl); (case hr => first | (go_simp; done) | (go_simp; rfl)); intro gb456 hg w56 hbox hb; have n0_ := Aside0.mk (Kd.R_below (by (with_reducible repeat (first | apply Kd.R_alloc | apply Kd.R_drewN | apply Kd.R_drew)); exact HO442.out) hb); have n1_ := Aside0.mk (Kd.R_below (by (with_reducible repeat (first | apply Kd.R_alloc | apply Kd.R_drewN | apply Kd.R_drew)); exact HO447.out) hb); have n2_ := Aside0.mk (Kd.R_below (by (with_reducible repeat (first | apply Kd.R_alloc | apply Kd.R_drewN | apply Kd.R_drew)); exact HO453.out) hb); have n3_ := Aside0.mk (blk_below (g := gb438) (o := .cells #[.slice A0_0 l0_0.length c0_0, .int .i64 a0_1] 39 (0, 0)) (by (with_reducible repeat (first | refine blk_drewN ?_ _ | refine blk_drew ?_ | refine blk_alloc ?_ _)); exact BK438.out) hb); have n4_ := Aside0.mk (blk_below (g := gb444) (o := .cells #[.slice Ao45 t440.length co45, .int .i64 t443] 26 (0, 0)) (by (with_reducible repeat (first | refine blk_drewN ?_ _ | refine blk_drew ?_ | refine blk_alloc ?_ _)); exact BK444.out) hb); have n5_ := Aside0.mk (blk_below (g := gb450) (o := .cells #[.slice Ao50 t445.length co50, .int .i64 t448] 26 (0, 0)) (by (with_reducible repeat (first | refine blk_drewN ?_ _ | refine blk_drew ?_ | refine blk_alloc ?_ _)); exact BK450.out) hb); have n6_ := Aside0.mk (below_step (by repeat (first | (with_reducible first | exact HB.out | apply below_alloc | apply pw_below_drewN | apply below_drew1 | refine below_set ?_ GE438.out | refine below_set ?_ GE444.out | refine below_set ?_ GE450.out) | exact HB.out)) hb); have n7_ := Aside0.mk (hbox); have n8_ := Aside0.mk ((by rw [hg]; exact (below_size (by repeat (first | (with_reducible first | exact HB.out | apply below_alloc | apply pw_below_drewN | apply below_drew1 | refine below_set ?_ GE438.out | refine below_set ?_ GE444.out | refine below_set ?_ GE450.out) | exact HB.out))) : w.heap.size ≤ gb456)); have n9_ := Aside0.mk ((by rw [hg]; exact (below_size (by repeat (first | (with_reducible first | exact HB.out | apply below_alloc | apply pw_below_drewN | apply below_drew1 | refine below_set ?_ GE438.out | refine below_set ?_ GE444.out | refine below_set ?_ GE450.out) | exact HB.out))) : w.heap.size ≤ gb456)); have n10_ := Aside0.mk ((by rw [hg]; exact Nat.ne_of_lt (blk_lt (g := gb438) (o := .cells #[.slice A0_0 l0_0.length c0_0, .int .i64 a0_1] 39 (0, 0)) (by (with_reducible repeat (first | refine blk_drewN ?_ _ | refine blk_drew ?_ | refine blk_alloc ?_ _)); exact BK438.out)) : gb438 ≠ gb456)); have n11_ := Aside0.mk ((by rw [hg]; exact Nat.ne_of_gt (blk_lt (g := gb438) (o := .cells #[.slice A0_0 l0_0.length c0_0, .int .i64 a0_1] 39 (0, 0)) (by (with_reducible repeat (first | refine blk_drewN ?_ _ | refine blk_drew ?_ | refine blk_alloc ?_ _)); exact BK438.out)) : gb456 ≠ gb438)); have n12_ := Aside0.mk ((by rw [hg]; exact Nat.ne_of_lt (blk_lt (g := gb444) (o := .cells #[.slice Ao45 t440.length co45, .int .i64 t443] 26 (0, 0)) (by (with_reducible repeat (first | refine blk_drewN ?_ _ | refine blk_drew ?_ | refine blk_alloc ?_ _)); exact BK444.out)) : gb444 ≠ gb456)); have n13_ := Aside0.mk ((by rw [hg]; exact Nat.ne_of_gt (blk_lt (g := gb444) (o := .cells #[.slice Ao45 t440.length co45, .int .i64 t443] 26 (0, 0)) (by (with_reducible repeat (first | refine blk_drewN ?_ _ | refine blk_drew ?_ | refine blk_alloc ?_ _)); exact BK444.out)) : gb456 ≠ gb444)); have n14_ := Aside0.mk ((by rw [hg]; exact Nat.ne_of_lt (blk_lt (g := gb450) (o := .cells #[.slice Ao50 t445.length co50, .int .i64 t448] 26 (0, 0)) (by (with_reducible repeat (first | refine blk_drewN ?_ _ | refine blk_drew ?_ | refine blk_alloc ?_ _)); exact BK450.out)) : gb450 ≠ gb456)); have n15_ := Aside0.mk ((by rw [hg]; exact Nat.ne_of_gt (blk_lt (g := gb450) (o := .cells #[.slice Ao50 t445.length co50, .int .i64 t448] 26 (0, 0)) (by (with_reducible repeat (first | refine blk_drewN ?_ _ | refine blk_drew ?_ | refine blk_alloc ?_ _)); exact BK450.out)) : gb456 ≠ gb450)); clear HO442; clear HO447; clear HO453; clear BK438; clear BK444; clear BK450; clear HB; have HO442 := n0_; have HO447 := n1_; have HO453 := n2_; have BK438 := n3_; have BK444 := n4_; have BK450 := n5_; have HB := n6_; have BK456 := n7_; have GW456 := n8_; have GE456 := n9_; have NB438_456 := n10_; have NB456_438 := n11_; have NB444_456 := n12_; have NB456_444 := n13_; have NB450_456 := n14_; have NB456_450 := n15_; clear n0_ n1_ n2_ n3_ n4_ n5_ n6_ n7_ n8_ n9_ n10_ n11_ n12_ n13_ n14_ n15_; clear hb hbox hg; obtain ⟨Ao57, co57, eo57⟩ := Kd.R_slice HO453.out; subst eo57; have hnb58 := NB456_438.out; have hnc58 := NB438_456.out; have hnb59 := NB456_444.out; have hnc59 := NB444_456.out; have hnb60 := NB456_450.out; have hnc60 := NB450_456.out; have hcz61_0 : w56.cell? ⟨gb456, 0, none⟩ = some (.slice none 0 0) := (blk_cell BK456.out 0).trans rfl; have hcz61_1 : w56.cell? ⟨gb456, 1, none⟩ = some (.int .i64 0) := (blk_cell BK456.out 1).trans rfl; have hfz61_0 := blk_frozen BK456.out 0; have hfz61_1 := blk_frozen BK456.out 1; have hcz62_0 : w56.cell? ⟨gb444, 0, none⟩ = some (.slice Ao45 t440.length co45) := (blk_cell BK444.out 0).trans rfl; have hcz62_1 : w56.cell? ⟨gb444, 1, none⟩ = some (.int .i64 t443) := (blk_cell BK444.out 1).trans rfl; have hfz62_0 := blk_frozen BK444.out 0; have hfz62_1 := blk_frozen BK444.out 1) | ((with_reducible refine gate_callee (f := 18) rfl ?_); refine goesL_ (some 55) rfl rfl Try.func18 (by kernel_rfl) rfl #[.agg #[.slice Ao45 t440.length co45, .int .i64 t443], .int .i64 a1] rfl (by (try simp only [List.map_toArray, List.map_cons, List.map_nil]); first | done | rfl | (simp only [List.length_drop, List.length_take]; rfl)) ?_; (with_reducible refine (sched_Drop.calls kj5 _ _ t440 t443 a1 t457 t460 t461 _ ?side1 ?side2 A16.out).mono ?_); (case side1 => refine (Kd.R_reads' (e := 44) (base := w.heap.size) (ok := fun k_ => (True ∧ some k_ ≠ (.slice Ao50 t445.length co50 : Value).ownBlock)) (n := t440.length) (c := co45) ?_).2.2; exact (by (with_reducible repeat (first | apply Kd.R_alloc | apply Kd.R_drewN | apply Kd.R_drew)); exact (Kd.R_mono (Kd.R_far (p := ⟨gb456, 1, none⟩) (Kd.R_far (p := ⟨gb456, 0, none⟩) (Kd.R_types HO442.out BK456.out (by decide)) (fun _ hk => hk.2) (.slice Ao57 t451.length co57)) (fun _ hk => hk.2) (.int .i64 t454)) (fun _ h_ => h_.1)))); (case side2 => exact (Kd.R_reads' HO442.out).2.1); rintro e w63 ⟨v458, rfl, ho0, hb⟩; refine ⟨_, rfl, ?_⟩; have n0_ := Aside0.mk (Kd.R_elder' (by (with_reducible repeat (first | apply Kd.R_alloc | apply Kd.R_drewN | apply Kd.R_drew)); exact (Kd.R_mono (Kd.R_far (p := ⟨gb456, 1, none⟩) (Kd.R_far (p := ⟨gb456, 0, none⟩) (Kd.R_types HO442.out BK456.out (by decide)) (fun _ hk => hk.2) (.slice Ao57 t451.length co57)) (fun _ hk => hk.2) (.int .i64 t454)) (fun _ h_ => h_.1))) (Kd.R_base ho0) hb); have n1_ := Aside0.mk (Kd.R_elder' (by (with_reducible repeat (first | apply Kd.R_alloc | apply Kd.R_drewN | apply Kd.R_drew)); exact (Kd.R_mono (Kd.R_far (p := ⟨gb456, 1, none⟩) (Kd.R_far (p := ⟨gb456, 0, none⟩) (Kd.R_types HO447.out BK456.out (by decide)) (fun _ hk => hk.2) (.slice Ao57 t451.length co57)) (fun _ hk => hk.2) (.int .i64 t454)) (fun _ h_ => h_.1))) (Kd.R_base ho0) hb); have n2_ := Aside0.mk (Kd.R_below (by (with_reducible repeat (first | apply Kd.R_alloc | apply Kd.R_drewN | apply Kd.R_drew)); exact (Kd.R_mono (Kd.R_far (p := ⟨gb456, 1, none⟩) (Kd.R_far (p := ⟨gb456, 0, none⟩) (Kd.R_types HO453.out BK456.out (by decide)) (fun _ hk => hk.2) (.slice Ao57 t451.length co57)) (fun _ hk => hk.2) (.int .i64 t454)) (fun _ h_ => h_.1))) hb); have n3_ := Aside0.mk (Kd.R_lower (Kd.R_new' (Kd.R_new' ho0 (Kd.R_lt (by (with_reducible repeat (first | apply Kd.R_alloc | apply Kd.R_drewN | apply Kd.R_drew)); exact (Kd.R_mono (Kd.R_far (p := ⟨gb456, 1, none⟩) (Kd.R_far (p := ⟨gb456, 0, none⟩) (Kd.R_types HO442.out BK456.out (by decide)) (fun _ hk => hk.2) (.slice Ao57 t451.length co57)) (fun _ hk => hk.2) (.int .i64 t454)) (fun _ h_ => h_.1))))) (Kd.R_lt (by (with_reducible repeat (first | apply Kd.R_alloc | apply Kd.R_drewN | apply Kd.R_drew)); exact (Kd.R_mono (Kd.R_far (p := ⟨gb456, 1, none⟩) (Kd.R_far (p := ⟨gb456, 0, none⟩) (Kd.R_types HO447.out BK456.out (by decide)) (fun _ hk => hk.2) (.slice Ao57 t451.length co57)) (fun _ hk => hk.2) (.int .i64 t454)) (fun _ h_ => h_.1))))) (below_size (by repeat (first | (with_reducible first | exact HB.out | apply below_alloc | apply pw_below_drewN | apply below_drew1 | refine below_set ?_ GE438.out | refine below_set ?_ GE444.out | refine below_set ?_ GE450.out | refine below_set ?_ GE456.out) | exact HB.out)))); have n4_ := Aside0.mk (blk_below (g := gb438) (o := .cells #[.slice A0_0 l0_0.length c0_0, .int .i64 a0_1] 39 (0, 0)) (by (with_reducible repeat (first | refine blk_drewN ?_ _ | refine blk_drew ?_ | refine blk_alloc ?_ _)); refine blk_far ?_ NB438_456.out _; (with_reducible repeat (first | refine blk_drewN ?_ _ | refine blk_drew ?_ | refine blk_alloc ?_ _)); refine blk_far ?_ NB438_456.out _; (with_reducible repeat (first | refine blk_drewN ?_ _ | refine blk_drew ?_ | refine blk_alloc ?_ _)); exact BK438.out) hb); have n5_ := Aside0.mk (blk_below (g := gb444) (o := .cells #[.slice Ao45 t440.length co45, .int .i64 t443] 26 (0, 0)) (by (with_reducible repeat (first | refine blk_drewN ?_ _ | refine blk_drew ?_ | refine blk_alloc ?_ _)); refine blk_far ?_ NB444_456.out _; (with_reducible repeat (first | refine blk_drewN ?_ _ | refine blk_drew ?_ | refine blk_alloc ?_ _)); refine blk_far ?_ NB444_456.out _; (with_reducible repeat (first | refine blk_drewN ?_ _ | refine blk_drew ?_ | refine blk_alloc ?_ _)); exact BK444.out) hb); have n6_ := Aside0.mk (blk_below (g := gb450) (o := .cells #[.slice Ao50 t445.length co50, .int .i64 t448] 26 (0, 0)) (by (with_reducible repeat (first | refine blk_drewN ?_ _ | refine blk_drew ?_ | refine blk_alloc ?_ _)); refine blk_far ?_ NB450_456.out _; (with_reducible repeat (first | refine blk_drewN ?_ _ | refine blk_drew ?_ | refine blk_alloc ?_ _)); refine blk_far ?_ NB450_456.out _; (with_reducible repeat (first | refine blk_drewN ?_ _ | refine blk_drew ?_ | refine blk_alloc ?_ _)); exact BK450.out) hb); have n7_ := Aside0.mk (blk_below (g := gb456) (o := .cells #[.slice Ao57 t451.length co57, .int .i64 t454] 39 (0, 0)) (by (with_reducible repeat (first | refine blk_drewN ?_ _ | refine blk_drew ?_ | refine blk_alloc ?_ _)); refine blk_put (cs := #[.slice Ao57 t451.length co57, .int .i64 0]) ?_ 1 _ rfl; (with_reducible repeat (first | refine blk_drewN ?_ _ | refine blk_drew ?_ | refine blk_alloc ?_ _)); refine blk_put (cs := #[.slice none 0 0, .int .i64 0]) ?_ 0 _ rfl; (with_reducible repeat (first | refine blk_drewN ?_ _ | refine blk_drew ?_ | refine blk_alloc ?_ _)); exact BK456.out) hb); have n8_ := Aside0.mk (below_step (by repeat (first | (with_reducible first | exact HB.out | apply below_alloc | apply pw_below_drewN | apply below_drew1 | refine below_set ?_ GE438.out | refine below_set ?_ GE444.out | refine below_set ?_ GE450.out | refine below_set ?_ GE456.out) | exact HB.out)) hb); clear HO442; clear HO447; clear HO453; clear BK438; clear BK444; clear BK450; clear BK456; clear HB; have HO442 := n0_; have HO447 := n1_; have HO453 := n2_; have HO459 := n3_; have BK438 := n4_; have BK444 := n5_; have BK450 := n6_; have BK456 := n7_; have HB := n8_; clear n0_ n1_ n2_ n3_ n4_ n5_ n6_ n7_ n8_; (try clear hb); (try clear hb2); (try clear hk); (try clear hi); (try clear ho0)) | ((with_reducible refine gate_dst (N := 15) rfl ?_); (try (refine gate_guard (by rfl) ?_; dsimp only)); refine box_event ?hg (N := 15) ?hd (cs := #[.slice none 0 0, .int .i64 0]) (t := 26) ?hr ?_; (case hd => rfl); (case hg => rfl); (case hr => first | (go_simp; done) | (go_simp; rfl)); intro gb462 hg w64 hbox hb; have n0_ := Aside0.mk (Kd.R_below (by (with_reducible repeat (first | apply Kd.R_alloc | apply Kd.R_drewN | apply Kd.R_drew)); exact HO442.out) hb); have n1_ := Aside0.mk (Kd.R_below (by (with_reducible repeat (first | apply Kd.R_alloc | apply Kd.R_drewN | apply Kd.R_drew)); exact HO447.out) hb); have n2_ := Aside0.mk (Kd.R_below (by (with_reducible repeat (first | apply Kd.R_alloc | apply Kd.R_drewN | apply Kd.R_drew)); exact HO453.out) hb); have n3_ := Aside0.mk (Kd.R_below (by (with_reducible repeat (first | apply Kd.R_alloc | apply Kd.R_drewN | apply Kd.R_drew)); exact HO459.out) hb); have n4_ := Aside0.mk (blk_below (g := gb438) (o := .cells #[.slice A0_0 l0_0.length c0_0, .int .i64 a0_1] 39 (0, 0)) (by (with_reducible repeat (first | refine blk_drewN ?_ _ | refine blk_drew ?_ | refine blk_alloc ?_ _)); exact BK438.out) hb); have n5_ := Aside0.mk (blk_below (g := gb444) (o := .cells #[.slice Ao45 t440.length co45, .int .i64 t443] 26 (0, 0)) (by (with_reducible repeat (first | refine blk_drewN ?_ _ | refine blk_drew ?_ | refine blk_alloc ?_ _)); exact BK444.out) hb); have n6_ := Aside0.mk (blk_below (g := gb450) (o := .cells #[.slice Ao50 t445.length co50, .int .i64 t448] 26 (0, 0)) (by (with_reducible repeat (first | refine blk_drewN ?_ _ | refine blk_drew ?_ | refine blk_alloc ?_ _)); exact BK450.out) hb); have n7_ := Aside0.mk (blk_below (g := gb456) (o := .cells #[.slice Ao57 t451.length co57, .int .i64 t454] 39 (0, 0)) (by (with_reducible repeat (first | refine blk_drewN ?_ _ | refine blk_drew ?_ | refine blk_alloc ?_ _)); exact BK456.out) hb); have n8_ := Aside0.mk (below_step (by repeat (first | (with_reducible first | exact HB.out | apply below_alloc | apply pw_below_drewN | apply below_drew1 | refine below_set ?_ GE438.out | refine below_set ?_ GE444.out | refine below_set ?_ GE450.out | refine below_set ?_ GE456.out) | exact HB.out)) hb); have n9_ := Aside0.mk (hbox); have n10_ := Aside0.mk ((by rw [hg]; exact (below_size (by repeat (first | (with_reducible first | exact HB.out | apply below_alloc | apply pw_below_drewN | apply below_drew1 | refine below_set ?_ GE438.out | refine below_set ?_ GE444.out | refine below_set ?_ GE450.out | refine below_set ?_ GE456.out) | exact HB.out))) : w.heap.size ≤ gb462)); have n11_ := Aside0.mk ((by rw [hg]; exact (below_size (by repeat (first | (with_reducible first | exact HB.out | apply below_alloc | apply pw_below_drewN | apply below_drew1 | refine below_set ?_ GE438.out | refine below_set ?_ GE444.out | refine below_set ?_ GE450.out | refine below_set ?_ GE456.out) | exact HB.out))) : w.heap.size ≤ gb462)); have n12_ := Aside0.mk ((by rw [hg]; exact Nat.ne_of_lt (blk_lt (g := gb438) (o := .cells #[.slice A0_0 l0_0.length c0_0, .int .i64 a0_1] 39 (0, 0)) (by (with_reducible repeat (first | refine blk_drewN ?_ _ | refine blk_drew ?_ | refine blk_alloc ?_ _)); exact BK438.out)) : gb438 ≠ gb462)); have n13_ := Aside0.mk ((by rw [hg]; exact Nat.ne_of_gt (blk_lt (g := gb438) (o := .cells #[.slice A0_0 l0_0.length c0_0, .int .i64 a0_1] 39 (0, 0)) (by (with_reducible repeat (first | refine blk_drewN ?_ _ | refine blk_drew ?_ | refine blk_alloc ?_ _)); exact BK438.out)) : gb462 ≠ gb438)); have n14_ := Aside0.mk ((by rw [hg]; exact Nat.ne_of_lt (blk_lt (g := gb444) (o := .cells #[.slice Ao45 t440.length co45, .int .i64 t443] 26 (0, 0)) (by (with_reducible repeat (first | refine blk_drewN ?_ _ | refine blk_drew ?_ | refine blk_alloc ?_ _)); exact BK444.out)) : gb444 ≠ gb462)); have n15_ := Aside0.mk ((by rw [hg]; exact Nat.ne_of_gt (blk_lt (g := gb444) (o := .cells #[.slice Ao45 t440.length co45, .int .i64 t443] 26 (0, 0)) (by (with_reducible repeat (first | refine blk_drewN ?_ _ | refine blk_drew ?_ | refine blk_alloc ?_ _)); exact BK444.out)) : gb462 ≠ gb444)); have n16_ := Aside0.mk ((by rw [hg]; exact Nat.ne_of_lt (blk_lt (g := gb450) (o := .cells #[.slice Ao50 t445.length co50, .int .i64 t448] 26 (0, 0)) (by (with_reducible repeat (first | refine blk_drewN ?_ _ | refine blk_drew ?_ | refine blk_alloc ?_ _)); exact BK450.out)) : gb450 ≠ gb462)); have n17_ := Aside0.mk ((by rw [hg]; exact Nat.ne_of_gt (blk_lt (g := gb450) (o := .cells #[.slice Ao50 t445.length co50, .int .i64 t448] 26 (0, 0)) (by (with_reducible repeat (first | refine blk_drewN ?_ _ | refine blk_drew ?_ | refine blk_alloc ?_ _)); exact BK450.out)) : gb462 ≠ gb450)); have n18_ := Aside0.mk ((by rw [hg]; exact Nat.ne_of_lt (blk_lt (g := gb456) (o := .cells #[.slice Ao57 t451.length co57, .int .i64 t454] 39 (0, 0)) (by (with_reducible repeat (first | refine blk_drewN ?_ _ | refine blk_drew ?_ | refine blk_alloc ?_ _)); exact BK456.out)) : gb456 ≠ gb462)); have n19_ := Aside0.mk ((by rw [hg]; exact Nat.ne_of_gt (blk_lt (g := gb456) (o := .cells #[.slice Ao57 t451.length co57, .int .i64 t454] 39 (0, 0)) (by (with_reducible repeat (first | refine blk_drewN ?_ _ | refine blk_drew ?_ | refine blk_alloc ?_ _)); exact BK456.out)) : gb462 ≠ gb456)); clear HO442; clear HO447; clear HO453; clear HO459; clear BK438; clear BK444; clear BK450; clear BK456; clear HB; have HO442 := n0_; have HO447 := n1_; have HO453 := n2_; have HO459 := n3_; have BK438 := n4_; have BK444 := n5_; have BK450 := n6_; have BK456 := n7_; have HB := n8_; have BK462 := n9_; have GW462 := n10_; have GE462 := n11_; have NB438_462 := n12_; have NB462_438 := n13_; have NB444_462 := n14_; have NB462_444 := n15_; have NB450_462 := n16_; have NB462_450 := n17_; have NB456_462 := n18_; have NB462_456 := n19_; clear n0_ n1_ n2_ n3_ n4_ n5_ n6_ n7_ n8_ n9_ n10_ n11_ n12_ n13_ n14_ n15_ n16_ n17_ n18_ n19_; clear hb hbox hg; obtain ⟨Ao65, co65, eo65⟩ := Kd.R_slice HO459.out; subst eo65; have hnb66 := NB462_438.out; have hnc66 := NB438_462.out; have hnb67 := NB462_444.out; have hnc67 := NB444_462.out; have hnb68 := NB462_450.out; have hnc68 := NB450_462.out; have hnb69 := NB462_456.out; have hnc69 := NB456_462.out; have hcz70_0 : w64.cell? ⟨gb462, 0, none⟩ = some (.slice none 0 0) := (blk_cell BK462.out 0).trans rfl; have hcz70_1 : w64.cell? ⟨gb462, 1, none⟩ = some (.int .i64 0) := (blk_cell BK462.out 1).trans rfl; have hfz70_0 := blk_frozen BK462.out 0; have hfz70_1 := blk_frozen BK462.out 1; have hcz71_0 : w64.cell? ⟨gb438, 0, none⟩ = some (.slice A0_0 l0_0.length c0_0) := (blk_cell BK438.out 0).trans rfl; have hcz71_1 : w64.cell? ⟨gb438, 1, none⟩ = some (.int .i64 a0_1) := (blk_cell BK438.out 1).trans rfl; have hfz71_0 := blk_frozen BK438.out 0; have hfz71_1 := blk_frozen BK438.out 1) | ((with_reducible refine gate_callee (f := 20) rfl ?_); refine goesL_ (some 61) rfl rfl Try.func20 (by kernel_rfl) rfl #[.agg #[.slice A0_0 l0_0.length c0_0, .int .i64 a0_1], .int .i64 a1] rfl (by (try simp only [List.map_toArray, List.map_cons, List.map_nil]); first | done | rfl | (simp only [List.length_drop, List.length_take]; rfl)) ?_; (with_reducible refine (heronryref21_Drop.calls kj5 _ _ l0_0 a0_1 a1 t463 t466 t467 _ ?side1 ?side2 A17.out).mono ?_); (case side1 => exact Kd.C_below HR0_0.out (by repeat (first | (with_reducible first | exact HB.out | apply below_alloc | apply pw_below_drewN | apply below_drew1 | refine below_set ?_ GE438.out | refine below_set ?_ GE444.out | refine below_set ?_ GE450.out | refine below_set ?_ GE456.out | refine below_set ?_ GE462.out) | exact HB.out))); (case side2 => exact HC0_0.out); rintro e w72 ⟨v464, rfl, ho0, hb⟩; refine ⟨_, rfl, ?_⟩; have n0_ := Aside0.mk (Kd.R_below (by (with_reducible repeat (first | apply Kd.R_alloc | apply Kd.R_drewN | apply Kd.R_drew)); exact (Kd.R_mono (Kd.R_far (p := ⟨gb462, 1, none⟩) (Kd.R_far (p := ⟨gb462, 0, none⟩) (Kd.R_types HO442.out BK462.out (by decide)) (fun _ hk => hk.2) (.slice Ao65 t457.length co65)) (fun _ hk => hk.2) (.int .i64 t460)) (fun _ h_ => h_.1))) hb); have n1_ := Aside0.mk (Kd.R_below (by (with_reducible repeat (first | apply Kd.R_alloc | apply Kd.R_drewN | apply Kd.R_drew)); exact (Kd.R_mono (Kd.R_far (p := ⟨gb462, 1, none⟩) (Kd.R_far (p := ⟨gb462, 0, none⟩) (Kd.R_types HO447.out BK462.out (by decide)) (fun _ hk => hk.2) (.slice Ao65 t457.length co65)) (fun _ hk => hk.2) (.int .i64 t460)) (fun _ h_ => h_.1))) hb); have n2_ := Aside0.mk (Kd.R_elder' (by (with_reducible repeat (first | apply Kd.R_alloc | apply Kd.R_drewN | apply Kd.R_drew)); exact (Kd.R_mono (Kd.R_far (p := ⟨gb462, 1, none⟩) (Kd.R_far (p := ⟨gb462, 0, none⟩) (Kd.R_types HO453.out BK462.out (by decide)) (fun _ hk => hk.2) (.slice Ao65 t457.length co65)) (fun _ hk => hk.2) (.int .i64 t460)) (fun _ h_ => h_.1))) (Kd.R_base ho0) hb); have n3_ := Aside0.mk (Kd.R_below (by (with_reducible repeat (first | apply Kd.R_alloc | apply Kd.R_drewN | apply Kd.R_drew)); exact (Kd.R_mono (Kd.R_far (p := ⟨gb462, 1, none⟩) (Kd.R_far (p := ⟨gb462, 0, none⟩) (Kd.R_types HO459.out BK462.out (by decide)) (fun _ hk => hk.2) (.slice Ao65 t457.length co65)) (fun _ hk => hk.2) (.int .i64 t460)) (fun _ h_ => h_.1))) hb); have n4_ := Aside0.mk (Kd.R_lower (Kd.R_new' ho0 (Kd.R_lt (by (with_reducible repeat (first | apply Kd.R_alloc | apply Kd.R_drewN | apply Kd.R_drew)); exact (Kd.R_mono (Kd.R_far (p := ⟨gb462, 1, none⟩) (Kd.R_far (p := ⟨gb462, 0, none⟩) (Kd.R_types HO453.out BK462.out (by decide)) (fun _ hk => hk.2) (.slice Ao65 t457.length co65)) (fun _ hk => hk.2) (.int .i64 t460)) (fun _ h_ => h_.1))))) (below_size (by repeat (first | (with_reducible first | exact HB.out | apply below_alloc | apply pw_below_drewN | apply below_drew1 | refine below_set ?_ GE438.out | refine below_set ?_ GE444.out | refine below_set ?_ GE450.out | refine below_set ?_ GE456.out | refine below_set ?_ GE462.out) | exact HB.out)))); have n5_ := Aside0.mk (blk_below (g := gb438) (o := .cells #[.slice A0_0 l0_0.length c0_0, .int .i64 a0_1] 39 (0, 0)) (by (with_reducible repeat (first | refine blk_drewN ?_ _ | refine blk_drew ?_ | refine blk_alloc ?_ _)); refine blk_far ?_ NB438_462.out _; (with_reducible repeat (first | refine blk_drewN ?_ _ | refine blk_drew ?_ | refine blk_alloc ?_ _)); refine blk_far ?_ NB438_462.out _; (with_reducible repeat (first | refine blk_drewN ?_ _ | refine blk_drew ?_ | refine blk_alloc ?_ _)); exact BK438.out) hb); have n6_ := Aside0.mk (blk_below (g := gb444) (o := .cells #[.slice Ao45 t440.length co45, .int .i64 t443] 26 (0, 0)) (by (with_reducible repeat (first | refine blk_drewN ?_ _ | refine blk_drew ?_ | refine blk_alloc ?_ _)); refine blk_far ?_ NB444_462.out _; (with_reducible repeat (first | refine blk_drewN ?_ _ | refine blk_drew ?_ | refine blk_alloc ?_ _)); refine blk_far ?_ NB444_462.out _; (with_reducible repeat (first | refine blk_drewN ?_ _ | refine blk_drew ?_ | refine blk_alloc ?_ _)); exact BK444.out) hb); have n7_ := Aside0.mk (blk_below (g := gb450) (o := .cells #[.slice Ao50 t445.length co50, .int .i64 t448] 26 (0, 0)) (by (with_reducible repeat (first | refine blk_drewN ?_ _ | refine blk_drew ?_ | refine blk_alloc ?_ _)); refine blk_far ?_ NB450_462.out _; (with_reducible repeat (first | refine blk_drewN ?_ _ | refine blk_drew ?_ | refine blk_alloc ?_ _)); refine blk_far ?_ NB450_462.out _; (with_reducible repeat (first | refine blk_drewN ?_ _ | refine blk_drew ?_ | refine blk_alloc ?_ _)); exact BK450.out) hb); have n8_ := Aside0.mk (blk_below (g := gb456) (o := .cells #[.slice Ao57 t451.length co57, .int .i64 t454] 39 (0, 0)) (by (with_reducible repeat (first | refine blk_drewN ?_ _ | refine blk_drew ?_ | refine blk_alloc ?_ _)); refine blk_far ?_ NB456_462.out _; (with_reducible repeat (first | refine blk_drewN ?_ _ | refine blk_drew ?_ | refine blk_alloc ?_ _)); refine blk_far ?_ NB456_462.out _; (with_reducible repeat (first | refine blk_drewN ?_ _ | refine blk_drew ?_ | refine blk_alloc ?_ _)); exact BK456.out) hb); have n9_ := Aside0.mk (blk_below (g := gb462) (o := .cells #[.slice Ao65 t457.length co65, .int .i64 t460] 26 (0, 0)) (by (with_reducible repeat (first | refine blk_drewN ?_ _ | refine blk_drew ?_ | refine blk_alloc ?_ _)); refine blk_put (cs := #[.slice Ao65 t457.length co65, .int .i64 0]) ?_ 1 _ rfl; (with_reducible repeat (first | refine blk_drewN ?_ _ | refine blk_drew ?_ | refine blk_alloc ?_ _)); refine blk_put (cs := #[.slice none 0 0, .int .i64 0]) ?_ 0 _ rfl; (with_reducible repeat (first | refine blk_drewN ?_ _ | refine blk_drew ?_ | refine blk_alloc ?_ _)); exact BK462.out) hb); have n10_ := Aside0.mk (below_step (by repeat (first | (with_reducible first | exact HB.out | apply below_alloc | apply pw_below_drewN | apply below_drew1 | refine below_set ?_ GE438.out | refine below_set ?_ GE444.out | refine below_set ?_ GE450.out | refine below_set ?_ GE456.out | refine below_set ?_ GE462.out) | exact HB.out)) hb); clear HO442; clear HO447; clear HO453; clear HO459; clear BK438; clear BK444; clear BK450; clear BK456; clear BK462; clear HB; have HO442 := n0_; have HO447 := n1_; have HO453 := n2_; have HO459 := n3_; have HO465 := n4_; have BK438 := n5_; have BK444 := n6_; have BK450 := n7_; have BK456 := n8_; have BK462 := n9_; have HB := n10_; clear n0_ n1_ n2_ n3_ n4_ n5_ n6_ n7_ n8_ n9_ n10_; (try clear hb); (try clear hb2); (try clear hk); (try clear hi); (try clear ho0)) | ((with_reducible refine gate_dst (N := 17) rfl ?_); (try (refine gate_guard (by rfl) ?_; dsimp only)); refine box_event ?hg (N := 17) ?hd (cs := #[.slice none 0 0, .int .i64 0]) (t := 39) ?hr ?_; (case hd => rfl); (case hg => rfl); (case hr => first | (go_simp; done) | (go_simp; rfl)); intro gb468 hg w73 hbox hb; have n0_ := Aside0.mk (Kd.R_below (by (with_reducible repeat (first | apply Kd.R_alloc | apply Kd.R_drewN | apply Kd.R_drew)); exact HO442.out) hb); have n1_ := Aside0.mk (Kd.R_below (by (with_reducible repeat (first | apply Kd.R_alloc | apply Kd.R_drewN | apply Kd.R_drew)); exact HO447.out) hb); have n2_ := Aside0.mk (Kd.R_below (by (with_reducible repeat (first | apply Kd.R_alloc | apply Kd.R_drewN | apply Kd.R_drew)); exact HO453.out) hb); have n3_ := Aside0.mk (Kd.R_below (by (with_reducible repeat (first | apply Kd.R_alloc | apply Kd.R_drewN | apply Kd.R_drew)); exact HO459.out) hb); have n4_ := Aside0.mk (Kd.R_below (by (with_reducible repeat (first | apply Kd.R_alloc | apply Kd.R_drewN | apply Kd.R_drew)); exact HO465.out) hb); have n5_ := Aside0.mk (blk_below (g := gb438) (o := .cells #[.slice A0_0 l0_0.length c0_0, .int .i64 a0_1] 39 (0, 0)) (by (with_reducible repeat (first | refine blk_drewN ?_ _ | refine blk_drew ?_ | refine blk_alloc ?_ _)); exact BK438.out) hb); have n6_ := Aside0.mk (blk_below (g := gb444) (o := .cells #[.slice Ao45 t440.length co45, .int .i64 t443] 26 (0, 0)) (by (with_reducible repeat (first | refine blk_drewN ?_ _ | refine blk_drew ?_ | refine blk_alloc ?_ _)); exact BK444.out) hb); have n7_ := Aside0.mk (blk_below (g := gb450) (o := .cells #[.slice Ao50 t445.length co50, .int .i64 t448] 26 (0, 0)) (by (with_reducible repeat (first | refine blk_drewN ?_ _ | refine blk_drew ?_ | refine blk_alloc ?_ _)); exact BK450.out) hb); have n8_ := Aside0.mk (blk_below (g := gb456) (o := .cells #[.slice Ao57 t451.length co57, .int .i64 t454] 39 (0, 0)) (by (with_reducible repeat (first | refine blk_drewN ?_ _ | refine blk_drew ?_ | refine blk_alloc ?_ _)); exact BK456.out) hb); have n9_ := Aside0.mk (blk_below (g := gb462) (o := .cells #[.slice Ao65 t457.length co65, .int .i64 t460] 26 (0, 0)) (by (with_reducible repeat (first | refine blk_drewN ?_ _ | refine blk_drew ?_ | refine blk_alloc ?_ _)); exact BK462.out) hb); have n10_ := Aside0.mk (below_step (by repeat (first | (with_reducible first | exact HB.out | apply below_alloc | apply pw_below_drewN | apply below_drew1 | refine below_set ?_ GE438.out | refine below_set ?_ GE444.out | refine below_set ?_ GE450.out | refine below_set ?_ GE456.out | refine below_set ?_ GE462.out) | exact HB.out)) hb); have n11_ := Aside0.mk (hbox); have n12_ := Aside0.mk ((by rw [hg]; exact (below_size (by repeat (first | (with_reducible first | exact HB.out | apply below_alloc | apply pw_below_drewN | apply below_drew1 | refine below_set ?_ GE438.out | refine below_set ?_ GE444.out | refine below_set ?_ GE450.out | refine below_set ?_ GE456.out | refine below_set ?_ GE462.out) | exact HB.out))) : w.heap.size ≤ gb468)); have n13_ := Aside0.mk ((by rw [hg]; exact (below_size (by repeat (first | (with_reducible first | exact HB.out | apply below_alloc | apply pw_below_drewN | apply below_drew1 | refine below_set ?_ GE438.out | refine below_set ?_ GE444.out | refine below_set ?_ GE450.out | refine below_set ?_ GE456.out | refine below_set ?_ GE462.out) | exact HB.out))) : w.heap.size ≤ gb468)); have n14_ := Aside0.mk ((by rw [hg]; exact Nat.ne_of_lt (blk_lt (g := gb438) (o := .cells #[.slice A0_0 l0_0.length c0_0, .int .i64 a0_1] 39 (0, 0)) (by (with_reducible repeat (first | refine blk_drewN ?_ _ | refine blk_drew ?_ | refine blk_alloc ?_ _)); exact BK438.out)) : gb438 ≠ gb468)); have n15_ := Aside0.mk ((by rw [hg]; exact Nat.ne_of_gt (blk_lt (g := gb438) (o := .cells #[.slice A0_0 l0_0.length c0_0, .int .i64 a0_1] 39 (0, 0)) (by (with_reducible repeat (first | refine blk_drewN ?_ _ | refine blk_drew ?_ | refine blk_alloc ?_ _)); exact BK438.out)) : gb468 ≠ gb438)); have n16_ := Aside0.mk ((by rw [hg]; exact Nat.ne_of_lt (blk_lt (g := gb444) (o := .cells #[.slice Ao45 t440.length co45, .int .i64 t443] 26 (0, 0)) (by (with_reducible repeat (first | refine blk_drewN ?_ _ | refine blk_drew ?_ | refine blk_alloc ?_ _)); exact BK444.out)) : gb444 ≠ gb468)); have n17_ := Aside0.mk ((by rw [hg]; exact Nat.ne_of_gt (blk_lt (g := gb444) (o := .cells #[.slice Ao45 t440.length co45, .int .i64 t443] 26 (0, 0)) (by (with_reducible repeat (first | refine blk_drewN ?_ _ | refine blk_drew ?_ | refine blk_alloc ?_ _)); exact BK444.out)) : gb468 ≠ gb444)); have n18_ := Aside0.mk ((by rw [hg]; exact Nat.ne_of_lt (blk_lt (g := gb450) (o := .cells #[.slice Ao50 t445.length co50, .int .i64 t448] 26 (0, 0)) (by (with_reducible repeat (first | refine blk_drewN ?_ _ | refine blk_drew ?_ | refine blk_alloc ?_ _)); exact BK450.out)) : gb450 ≠ gb468)); have n19_ := Aside0.mk ((by rw [hg]; exact Nat.ne_of_gt (blk_lt (g := gb450) (o := .cells #[.slice Ao50 t445.length co50, .int .i64 t448] 26 (0, 0)) (by (with_reducible repeat (first | refine blk_drewN ?_ _ | refine blk_drew ?_ | refine blk_alloc ?_ _)); exact BK450.out)) : gb468 ≠ gb450)); have n20_ := Aside0.mk ((by rw [hg]; exact Nat.ne_of_lt (blk_lt (g := gb456) (o := .cells #[.slice Ao57 t451.length co57, .int .i64 t454] 39 (0, 0)) (by (with_reducible repeat (first | refine blk_drewN ?_ _ | refine blk_drew ?_ | refine blk_alloc ?_ _)); exact BK456.out)) : gb456 ≠ gb468)); have n21_ := Aside0.mk ((by rw [hg]; exact Nat.ne_of_gt (blk_lt (g := gb456) (o := .cells #[.slice Ao57 t451.length co57, .int .i64 t454] 39 (0, 0)) (by (with_reducible repeat (first | refine blk_drewN ?_ _ | refine blk_drew ?_ | refine blk_alloc ?_ _)); exact BK456.out)) : gb468 ≠ gb456)); have n22_ := Aside0.mk ((by rw [hg]; exact Nat.ne_of_lt (blk_lt (g := gb462) (o := .cells #[.slice Ao65 t457.length co65, .int .i64 t460] 26 (0, 0)) (by (with_reducible repeat (first | refine blk_drewN ?_ _ | refine blk_drew ?_ | refine blk_alloc ?_ _)); exact BK462.out)) : gb462 ≠ gb468)); have n23_ := Aside0.mk ((by rw [hg]; exact Nat.ne_of_gt (blk_lt (g := gb462) (o := .cells #[.slice Ao65 t457.length co65, .int .i64 t460] 26 (0, 0)) (by (with_reducible repeat (first | refine blk_drewN ?_ _ | refine blk_drew ?_ | refine blk_alloc ?_ _)); exact BK462.out)) : gb468 ≠ gb462)); clear HO442; clear HO447; clear HO453; clear HO459; clear HO465; clear BK438; clear BK444; clear BK450; clear BK456; clear BK462; clear HB; have HO442 := n0_; have HO447 := n1_; have HO453 := n2_; have HO459 := n3_; have HO465 := n4_; have BK438 := n5_; have BK444 := n6_; have BK450 := n7_; have BK456 := n8_; have BK462 := n9_; have HB := n10_; have BK468 := n11_; have GW468 := n12_; have GE468 := n13_; have NB438_468 := n14_; have NB468_438 := n15_; have NB444_468 := n16_; have NB468_444 := n17_; have NB450_468 := n18_; have NB468_450 := n19_; have NB456_468 := n20_; have NB468_456 := n21_; have NB462_468 := n22_; have NB468_462 := n23_; clear n0_ n1_ n2_ n3_ n4_ n5_ n6_ n7_ n8_ n9_ n10_ n11_ n12_ n13_ n14_ n15_ n16_ n17_ n18_ n19_ n20_ n21_ n22_ n23_; clear hb hbox hg; obtain ⟨Ao74, co74, eo74⟩ := Kd.R_slice HO465.out; subst eo74; have hnb75 := NB468_438.out; have hnc75 := NB438_468.out; have hnb76 := NB468_444.out; have hnc76 := NB444_468.out; have hnb77 := NB468_450.out; have hnc77 := NB450_468.out; have hnb78 := NB468_456.out; have hnc78 := NB456_468.out; have hnb79 := NB468_462.out; have hnc79 := NB462_468.out; have hcz80_0 : w73.cell? ⟨gb468, 0, none⟩ = some (.slice none 0 0) := (blk_cell BK468.out 0).trans rfl; have hcz80_1 : w73.cell? ⟨gb468, 1, none⟩ = some (.int .i64 0) := (blk_cell BK468.out 1).trans rfl; have hfz80_0 := blk_frozen BK468.out 0; have hfz80_1 := blk_frozen BK468.out 1; have hcz81_0 : w73.cell? ⟨gb444, 0, none⟩ = some (.slice Ao45 t440.length co45) := (blk_cell BK444.out 0).trans rfl; have hcz81_1 : w73.cell? ⟨gb444, 1, none⟩ = some (.int .i64 t443) := (blk_cell BK444.out 1).trans rfl; have hfz81_0 := blk_frozen BK444.out 0; have hfz81_1 := blk_frozen BK444.out 1) | ((with_reducible refine gate_callee (f := 11) rfl ?_); refine goesL_ (some 67) rfl rfl Try.func11 (by kernel_rfl) rfl #[.agg #[.slice Ao45 t440.length co45, .int .i64 t443], .slice A3 l3.length c3] rfl (by (try simp only [List.map_toArray, List.map_cons, List.map_nil]); first | done | rfl | (simp only [List.length_drop, List.length_take]; rfl)) ?_; (with_reducible refine (sched_Pick.calls kj5 _ _ t440 t443 _ _ l3 t469 t472 t473 t474 _ ?side1 ?side2 ?side3 ?side4 A18.out).mono ?_); (case side1 => refine (Kd.R_reads' (e := 44) (base := w.heap.size) (ok := fun k_ => ((True ∧ some k_ ≠ (.slice Ao50 t445.length co50 : Value).ownBlock) ∧ some k_ ≠ (.slice Ao65 t457.length co65 : Value).ownBlock)) (n := t440.length) (c := co45) ?_).2.2; exact (by (with_reducible repeat (first | apply Kd.R_alloc | apply Kd.R_drewN | apply Kd.R_drew)); exact (Kd.R_mono (Kd.R_far (p := ⟨gb468, 1, none⟩) (Kd.R_far (p := ⟨gb468, 0, none⟩) (Kd.R_types HO442.out BK468.out (by decide)) (fun _ hk => hk.2) (.slice Ao74 t463.length co74)) (fun _ hk => hk.2) (.int .i64 t466)) (fun _ h_ => h_.1)))); (case side2 => exact (Kd.R_reads' HO442.out).2.1); (case side3 => exact Kd.C_below HR3.out (by repeat (first | (with_reducible first | exact HB.out | apply below_alloc | apply pw_below_drewN | apply below_drew1 | refine below_set ?_ GE438.out | refine below_set ?_ GE444.out | refine below_set ?_ GE450.out | refine below_set ?_ GE456.out | refine below_set ?_ GE462.out | refine below_set ?_ GE468.out) | exact HB.out))); (case side4 => exact HC3.out); rintro e w82 ⟨v470, rfl, ho0, hb⟩; refine ⟨_, rfl, ?_⟩; have n0_ := Aside0.mk (Kd.R_elder' (by (with_reducible repeat (first | apply Kd.R_alloc | apply Kd.R_drewN | apply Kd.R_drew)); exact (Kd.R_mono (Kd.R_far (p := ⟨gb468, 1, none⟩) (Kd.R_far (p := ⟨gb468, 0, none⟩) (Kd.R_types HO442.out BK468.out (by decide)) (fun _ hk => hk.2) (.slice Ao74 t463.length co74)) (fun _ hk => hk.2) (.int .i64 t466)) (fun _ h_ => h_.1))) (Kd.R_base ho0) hb); have n1_ := Aside0.mk (Kd.R_elder' (by (with_reducible repeat (first | apply Kd.R_alloc | apply Kd.R_drewN | apply Kd.R_drew)); exact (Kd.R_mono (Kd.R_far (p := ⟨gb468, 1, none⟩) (Kd.R_far (p := ⟨gb468, 0, none⟩) (Kd.R_types HO447.out BK468.out (by decide)) (fun _ hk => hk.2) (.slice Ao74 t463.length co74)) (fun _ hk => hk.2) (.int .i64 t466)) (fun _ h_ => h_.1))) (Kd.R_base ho0) hb); have n2_ := Aside0.mk (Kd.R_below (by (with_reducible repeat (first | apply Kd.R_alloc | apply Kd.R_drewN | apply Kd.R_drew)); exact (Kd.R_mono (Kd.R_far (p := ⟨gb468, 1, none⟩) (Kd.R_far (p := ⟨gb468, 0, none⟩) (Kd.R_types HO453.out BK468.out (by decide)) (fun _ hk => hk.2) (.slice Ao74 t463.length co74)) (fun _ hk => hk.2) (.int .i64 t466)) (fun _ h_ => h_.1))) hb); have n3_ := Aside0.mk (Kd.R_elder' (by (with_reducible repeat (first | apply Kd.R_alloc | apply Kd.R_drewN | apply Kd.R_drew)); exact (Kd.R_mono (Kd.R_far (p := ⟨gb468, 1, none⟩) (Kd.R_far (p := ⟨gb468, 0, none⟩) (Kd.R_types HO459.out BK468.out (by decide)) (fun _ hk => hk.2) (.slice Ao74 t463.length co74)) (fun _ hk => hk.2) (.int .i64 t466)) (fun _ h_ => h_.1))) (Kd.R_base ho0) hb); have n4_ := Aside0.mk (Kd.R_below (by (with_reducible repeat (first | apply Kd.R_alloc | apply Kd.R_drewN | apply Kd.R_drew)); exact (Kd.R_mono (Kd.R_far (p := ⟨gb468, 1, none⟩) (Kd.R_far (p := ⟨gb468, 0, none⟩) (Kd.R_types HO465.out BK468.out (by decide)) (fun _ hk => hk.2) (.slice Ao74 t463.length co74)) (fun _ hk => hk.2) (.int .i64 t466)) (fun _ h_ => h_.1))) hb); have n5_ := Aside0.mk (Kd.R_lower (Kd.R_new' (Kd.R_new' (Kd.R_new' ho0 (Kd.R_lt (by (with_reducible repeat (first | apply Kd.R_alloc | apply Kd.R_drewN | apply Kd.R_drew)); exact (Kd.R_mono (Kd.R_far (p := ⟨gb468, 1, none⟩) (Kd.R_far (p := ⟨gb468, 0, none⟩) (Kd.R_types HO442.out BK468.out (by decide)) (fun _ hk => hk.2) (.slice Ao74 t463.length co74)) (fun _ hk => hk.2) (.int .i64 t466)) (fun _ h_ => h_.1))))) (Kd.R_lt (by (with_reducible repeat (first | apply Kd.R_alloc | apply Kd.R_drewN | apply Kd.R_drew)); exact (Kd.R_mono (Kd.R_far (p := ⟨gb468, 1, none⟩) (Kd.R_far (p := ⟨gb468, 0, none⟩) (Kd.R_types HO447.out BK468.out (by decide)) (fun _ hk => hk.2) (.slice Ao74 t463.length co74)) (fun _ hk => hk.2) (.int .i64 t466)) (fun _ h_ => h_.1))))) (Kd.R_lt (by (with_reducible repeat (first | apply Kd.R_alloc | apply Kd.R_drewN | apply Kd.R_drew)); exact (Kd.R_mono (Kd.R_far (p := ⟨gb468, 1, none⟩) (Kd.R_far (p := ⟨gb468, 0, none⟩) (Kd.R_types HO459.out BK468.out (by decide)) (fun _ hk => hk.2) (.slice Ao74 t463.length co74)) (fun _ hk => hk.2) (.int .i64 t466)) (fun _ h_ => h_.1))))) (below_size (by repeat (first | (with_reducible first | exact HB.out | apply below_alloc | apply pw_below_drewN | apply below_drew1 | refine below_set ?_ GE438.out | refine below_set ?_ GE444.out | refine below_set ?_ GE450.out | refine below_set ?_ GE456.out | refine below_set ?_ GE462.out | refine below_set ?_ GE468.out) | exact HB.out)))); have n6_ := Aside0.mk (blk_below (g := gb438) (o := .cells #[.slice A0_0 l0_0.length c0_0, .int .i64 a0_1] 39 (0, 0)) (by (with_reducible repeat (first | refine blk_drewN ?_ _ | refine blk_drew ?_ | refine blk_alloc ?_ _)); refine blk_far ?_ NB438_468.out _; (with_reducible repeat (first | refine blk_drewN ?_ _ | refine blk_drew ?_ | refine blk_alloc ?_ _)); refine blk_far ?_ NB438_468.out _; (with_reducible repeat (first | refine blk_drewN ?_ _ | refine blk_drew ?_ | refine blk_alloc ?_ _)); exact BK438.out) hb); have n7_ := Aside0.mk (blk_below (g := gb444) (o := .cells #[.slice Ao45 t440.length co45, .int .i64 t443] 26 (0, 0)) (by (with_reducible repeat (first | refine blk_drewN ?_ _ | refine blk_drew ?_ | refine blk_alloc ?_ _)); refine blk_far ?_ NB444_468.out _; (with_reducible repeat (first | refine blk_drewN ?_ _ | refine blk_drew ?_ | refine blk_alloc ?_ _)); refine blk_far ?_ NB444_468.out _; (with_reducible repeat (first | refine blk_drewN ?_ _ | refine blk_drew ?_ | refine blk_alloc ?_ _)); exact BK444.out) hb); have n8_ := Aside0.mk (blk_below (g := gb450) (o := .cells #[.slice Ao50 t445.length co50, .int .i64 t448] 26 (0, 0)) (by (with_reducible repeat (first | refine blk_drewN ?_ _ | refine blk_drew ?_ | refine blk_alloc ?_ _)); refine blk_far ?_ NB450_468.out _; (with_reducible repeat (first | refine blk_drewN ?_ _ | refine blk_drew ?_ | refine blk_alloc ?_ _)); refine blk_far ?_ NB450_468.out _; (with_reducible repeat (first | refine blk_drewN ?_ _ | refine blk_drew ?_ | refine blk_alloc ?_ _)); exact BK450.out) hb); have n9_ := Aside0.mk (blk_below (g := gb456) (o := .cells #[.slice Ao57 t451.length co57, .int .i64 t454] 39 (0, 0)) (by (with_reducible repeat (first | refine blk_drewN ?_ _ | refine blk_drew ?_ | refine blk_alloc ?_ _)); refine blk_far ?_ NB456_468.out _; (with_reducible repeat (first | refine blk_drewN ?_ _ | refine blk_drew ?_ | refine blk_alloc ?_ _)); refine blk_far ?_ NB456_468.out _; (with_reducible repeat (first | refine blk_drewN ?_ _ | refine blk_drew ?_ | refine blk_alloc ?_ _)); exact BK456.out) hb); have n10_ := Aside0.mk (blk_below (g := gb462) (o := .cells #[.slice Ao65 t457.length co65, .int .i64 t460] 26 (0, 0)) (by (with_reducible repeat (first | refine blk_drewN ?_ _ | refine blk_drew ?_ | refine blk_alloc ?_ _)); refine blk_far ?_ NB462_468.out _; (with_reducible repeat (first | refine blk_drewN ?_ _ | refine blk_drew ?_ | refine blk_alloc ?_ _)); refine blk_far ?_ NB462_468.out _; (with_reducible repeat (first | refine blk_drewN ?_ _ | refine blk_drew ?_ | refine blk_alloc ?_ _)); exact BK462.out) hb); have n11_ := Aside0.mk (blk_below (g := gb468) (o := .cells #[.slice Ao74 t463.length co74, .int .i64 t466] 39 (0, 0)) (by (with_reducible repeat (first | refine blk_drewN ?_ _ | refine blk_drew ?_ | refine blk_alloc ?_ _)); refine blk_put (cs := #[.slice Ao74 t463.length co74, .int .i64 0]) ?_ 1 _ rfl; (with_reducible repeat (first | refine blk_drewN ?_ _ | refine blk_drew ?_ | refine blk_alloc ?_ _)); refine blk_put (cs := #[.slice none 0 0, .int .i64 0]) ?_ 0 _ rfl; (with_reducible repeat (first | refine blk_drewN ?_ _ | refine blk_drew ?_ | refine blk_alloc ?_ _)); exact BK468.out) hb); have n12_ := Aside0.mk (below_step (by repeat (first | (with_reducible first | exact HB.out | apply below_alloc | apply pw_below_drewN | apply below_drew1 | refine below_set ?_ GE438.out | refine below_set ?_ GE444.out | refine below_set ?_ GE450.out | refine below_set ?_ GE456.out | refine below_set ?_ GE462.out | refine below_set ?_ GE468.out) | exact HB.out)) hb); clear HO442; clear HO447; clear HO453; clear HO459; clear HO465; clear BK438; clear BK444; clear BK450; clear BK456; clear BK462; clear BK468; clear HB; have HO442 := n0_; have HO447 := n1_; have HO453 := n2_; have HO459 := n3_; have HO465 := n4_; have HO471 := n5_; have BK438 := n6_; have BK444 := n7_; have BK450 := n8_; have BK456 := n9_; have BK462 := n10_; have BK468 := n11_; have HB := n12_; clear n0_ n1_ n2_ n3_ n4_ n5_ n6_ n7_ n8_ n9_ n10_ n11_ n12_; (try clear hb); (try clear hb2); (try clear hk); (try clear hi); (try clear ho0)) | ((with_reducible refine gate_dst (N := 19) rfl ?_); (try (refine gate_guard (by rfl) ?_; dsimp only)); refine box_event ?hg (N := 19) ?hd (cs := #[.slice none 0 0, .int .i64 0]) (t := 26) ?hr ?_; (case hd => rfl); (case hg => rfl); (case hr => first | (go_simp; done) | (go_simp; rfl)); intro gb475 hg w83 hbox hb; have n0_ := Aside0.mk (Kd.R_below (by (with_reducible repeat (first | apply Kd.R_alloc | apply Kd.R_drewN | apply Kd.R_drew)); exact HO442.out) hb); have n1_ := Aside0.mk (Kd.R_below (by (with_reducible repeat (first | apply Kd.R_alloc | apply Kd.R_drewN | apply Kd.R_drew)); exact HO447.out) hb); have n2_ := Aside0.mk (Kd.R_below (by (with_reducible repeat (first | apply Kd.R_alloc | apply Kd.R_drewN | apply Kd.R_drew)); exact HO453.out) hb); have n3_ := Aside0.mk (Kd.R_below (by (with_reducible repeat (first | apply Kd.R_alloc | apply Kd.R_drewN | apply Kd.R_drew)); exact HO459.out) hb); have n4_ := Aside0.mk (Kd.R_below (by (with_reducible repeat (first | apply Kd.R_alloc | apply Kd.R_drewN | apply Kd.R_drew)); exact HO465.out) hb); have n5_ := Aside0.mk (Kd.R_below (by (with_reducible repeat (first | apply Kd.R_alloc | apply Kd.R_drewN | apply Kd.R_drew)); exact HO471.out) hb); have n6_ := Aside0.mk (blk_below (g := gb438) (o := .cells #[.slice A0_0 l0_0.length c0_0, .int .i64 a0_1] 39 (0, 0)) (by (with_reducible repeat (first | refine blk_drewN ?_ _ | refine blk_drew ?_ | refine blk_alloc ?_ _)); exact BK438.out) hb); have n7_ := Aside0.mk (blk_below (g := gb444) (o := .cells #[.slice Ao45 t440.length co45, .int .i64 t443] 26 (0, 0)) (by (with_reducible repeat (first | refine blk_drewN ?_ _ | refine blk_drew ?_ | refine blk_alloc ?_ _)); exact BK444.out) hb); have n8_ := Aside0.mk (blk_below (g := gb450) (o := .cells #[.slice Ao50 t445.length co50, .int .i64 t448] 26 (0, 0)) (by (with_reducible repeat (first | refine blk_drewN ?_ _ | refine blk_drew ?_ | refine blk_alloc ?_ _)); exact BK450.out) hb); have n9_ := Aside0.mk (blk_below (g := gb456) (o := .cells #[.slice Ao57 t451.length co57, .int .i64 t454] 39 (0, 0)) (by (with_reducible repeat (first | refine blk_drewN ?_ _ | refine blk_drew ?_ | refine blk_alloc ?_ _)); exact BK456.out) hb); have n10_ := Aside0.mk (blk_below (g := gb462) (o := .cells #[.slice Ao65 t457.length co65, .int .i64 t460] 26 (0, 0)) (by (with_reducible repeat (first | refine blk_drewN ?_ _ | refine blk_drew ?_ | refine blk_alloc ?_ _)); exact BK462.out) hb); have n11_ := Aside0.mk (blk_below (g := gb468) (o := .cells #[.slice Ao74 t463.length co74, .int .i64 t466] 39 (0, 0)) (by (with_reducible repeat (first | refine blk_drewN ?_ _ | refine blk_drew ?_ | refine blk_alloc ?_ _)); exact BK468.out) hb); have n12_ := Aside0.mk (below_step (by repeat (first | (with_reducible first | exact HB.out | apply below_alloc | apply pw_below_drewN | apply below_drew1 | refine below_set ?_ GE438.out | refine below_set ?_ GE444.out | refine below_set ?_ GE450.out | refine below_set ?_ GE456.out | refine below_set ?_ GE462.out | refine below_set ?_ GE468.out) | exact HB.out)) hb); have n13_ := Aside0.mk (hbox); have n14_ := Aside0.mk ((by rw [hg]; exact (below_size (by repeat (first | (with_reducible first | exact HB.out | apply below_alloc | apply pw_below_drewN | apply below_drew1 | refine below_set ?_ GE438.out | refine below_set ?_ GE444.out | refine below_set ?_ GE450.out | refine below_set ?_ GE456.out | refine below_set ?_ GE462.out | refine below_set ?_ GE468.out) | exact HB.out))) : w.heap.size ≤ gb475)); have n15_ := Aside0.mk ((by rw [hg]; exact (below_size (by repeat (first | (with_reducible first | exact HB.out | apply below_alloc | apply pw_below_drewN | apply below_drew1 | refine below_set ?_ GE438.out | refine below_set ?_ GE444.out | refine below_set ?_ GE450.out | refine below_set ?_ GE456.out | refine below_set ?_ GE462.out | refine below_set ?_ GE468.out) | exact HB.out))) : w.heap.size ≤ gb475)); have n16_ := Aside0.mk ((by rw [hg]; exact Nat.ne_of_lt (blk_lt (g := gb438) (o := .cells #[.slice A0_0 l0_0.length c0_0, .int .i64 a0_1] 39 (0, 0)) (by (with_reducible repeat (first | refine blk_drewN ?_ _ | refine blk_drew ?_ | refine blk_alloc ?_ _)); exact BK438.out)) : gb438 ≠ gb475)); have n17_ := Aside0.mk ((by rw [hg]; exact Nat.ne_of_gt (blk_lt (g := gb438) (o := .cells #[.slice A0_0 l0_0.length c0_0, .int .i64 a0_1] 39 (0, 0)) (by (with_reducible repeat (first | refine blk_drewN ?_ _ | refine blk_drew ?_ | refine blk_alloc ?_ _)); exact BK438.out)) : gb475 ≠ gb438)); have n18_ := Aside0.mk ((by rw [hg]; exact Nat.ne_of_lt (blk_lt (g := gb444) (o := .cells #[.slice Ao45 t440.length co45, .int .i64 t443] 26 (0, 0)) (by (with_reducible repeat (first | refine blk_drewN ?_ _ | refine blk_drew ?_ | refine blk_alloc ?_ _)); exact BK444.out)) : gb444 ≠ gb475)); have n19_ := Aside0.mk ((by rw [hg]; exact Nat.ne_of_gt (blk_lt (g := gb444) (o := .cells #[.slice Ao45 t440.length co45, .int .i64 t443] 26 (0, 0)) (by (with_reducible repeat (first | refine blk_drewN ?_ _ | refine blk_drew ?_ | refine blk_alloc ?_ _)); exact BK444.out)) : gb475 ≠ gb444)); have n20_ := Aside0.mk ((by rw [hg]; exact Nat.ne_of_lt (blk_lt (g := gb450) (o := .cells #[.slice Ao50 t445.length co50, .int .i64 t448] 26 (0, 0)) (by (with_reducible repeat (first | refine blk_drewN ?_ _ | refine blk_drew ?_ | refine blk_alloc ?_ _)); exact BK450.out)) : gb450 ≠ gb475)); have n21_ := Aside0.mk ((by rw [hg]; exact Nat.ne_of_gt (blk_lt (g := gb450) (o := .cells #[.slice Ao50 t445.length co50, .int .i64 t448] 26 (0, 0)) (by (with_reducible repeat (first | refine blk_drewN ?_ _ | refine blk_drew ?_ | refine blk_alloc ?_ _)); exact BK450.out)) : gb475 ≠ gb450)); have n22_ := Aside0.mk ((by rw [hg]; exact Nat.ne_of_lt (blk_lt (g := gb456) (o := .cells #[.slice Ao57 t451.length co57, .int .i64 t454] 39 (0, 0)) (by (with_reducible repeat (first | refine blk_drewN ?_ _ | refine blk_drew ?_ | refine blk_alloc ?_ _)); exact BK456.out)) : gb456 ≠ gb475)); have n23_ := Aside0.mk ((by rw [hg]; exact Nat.ne_of_gt (blk_lt (g := gb456) (o := .cells #[.slice Ao57 t451.length co57, .int .i64 t454] 39 (0, 0)) (by (with_reducible repeat (first | refine blk_drewN ?_ _ | refine blk_drew ?_ | refine blk_alloc ?_ _)); exact BK456.out)) : gb475 ≠ gb456)); have n24_ := Aside0.mk ((by rw [hg]; exact Nat.ne_of_lt (blk_lt (g := gb462) (o := .cells #[.slice Ao65 t457.length co65, .int .i64 t460] 26 (0, 0)) (by (with_reducible repeat (first | refine blk_drewN ?_ _ | refine blk_drew ?_ | refine blk_alloc ?_ _)); exact BK462.out)) : gb462 ≠ gb475)); have n25_ := Aside0.mk ((by rw [hg]; exact Nat.ne_of_gt (blk_lt (g := gb462) (o := .cells #[.slice Ao65 t457.length co65, .int .i64 t460] 26 (0, 0)) (by (with_reducible repeat (first | refine blk_drewN ?_ _ | refine blk_drew ?_ | refine blk_alloc ?_ _)); exact BK462.out)) : gb475 ≠ gb462)); have n26_ := Aside0.mk ((by rw [hg]; exact Nat.ne_of_lt (blk_lt (g := gb468) (o := .cells #[.slice Ao74 t463.length co74, .int .i64 t466] 39 (0, 0)) (by (with_reducible repeat (first | refine blk_drewN ?_ _ | refine blk_drew ?_ | refine blk_alloc ?_ _)); exact BK468.out)) : gb468 ≠ gb475)); have n27_ := Aside0.mk ((by rw [hg]; exact Nat.ne_of_gt (blk_lt (g := gb468) (o := .cells #[.slice Ao74 t463.length co74, .int .i64 t466] 39 (0, 0)) (by (with_reducible repeat (first | refine blk_drewN ?_ _ | refine blk_drew ?_ | refine blk_alloc ?_ _)); exact BK468.out)) : gb475 ≠ gb468)); clear HO442; clear HO447; clear HO453; clear HO459; clear HO465; clear HO471; clear BK438; clear BK444; clear BK450; clear BK456; clear BK462; clear BK468; clear HB; have HO442 := n0_; have HO447 := n1_; have HO453 := n2_; have HO459 := n3_; have HO465 := n4_; have HO471 := n5_; have BK438 := n6_; have BK444 := n7_; have BK450 := n8_; have BK456 := n9_; have BK462 := n10_; have BK468 := n11_; have HB := n12_; have BK475 := n13_; have GW475 := n14_; have GE475 := n15_; have NB438_475 := n16_; have NB475_438 := n17_; have NB444_475 := n18_; have NB475_444 := n19_; have NB450_475 := n20_; have NB475_450 := n21_; have NB456_475 := n22_; have NB475_456 := n23_; have NB462_475 := n24_; have NB475_462 := n25_; have NB468_475 := n26_; have NB475_468 := n27_; clear n0_ n1_ n2_ n3_ n4_ n5_ n6_ n7_ n8_ n9_ n10_ n11_ n12_ n13_ n14_ n15_ n16_ n17_ n18_ n19_ n20_ n21_ n22_ n23_ n24_ n25_ n26_ n27_; clear hb hbox hg; obtain ⟨Ao84, co84, eo84⟩ := Kd.R_slice HO471.out; subst eo84; have hnb85 := NB475_438.out; have hnc85 := NB438_475.out; have hnb86 := NB475_444.out; have hnc86 := NB444_475.out; have hnb87 := NB475_450.out; have hnc87 := NB450_475.out; have hnb88 := NB475_456.out; have hnc88 := NB456_475.out; have hnb89 := NB475_462.out; have hnc89 := NB462_475.out; have hnb90 := NB475_468.out; have hnc90 := NB468_475.out; have hcz91_0 : w83.cell? ⟨gb475, 0, none⟩ = some (.slice none 0 0) := (blk_cell BK475.out 0).trans rfl; have hcz91_1 : w83.cell? ⟨gb475, 1, none⟩ = some (.int .i64 0) := (blk_cell BK475.out 1).trans rfl; have hfz91_0 := blk_frozen BK475.out 0; have hfz91_1 := blk_frozen BK475.out 1; have hcz92_0 : w83.cell? ⟨gb438, 0, none⟩ = some (.slice A0_0 l0_0.length c0_0) := (blk_cell BK438.out 0).trans rfl; have hcz92_1 : w83.cell? ⟨gb438, 1, none⟩ = some (.int .i64 a0_1) := (blk_cell BK438.out 1).trans rfl; have hfz92_0 := blk_frozen BK438.out 0; have hfz92_1 := blk_frozen BK438.out 1) | ((with_reducible refine gate_callee (f := 21) rfl ?_); refine goesL_ (some 74) rfl rfl Try.func21 (by kernel_rfl) rfl #[.agg #[.slice A0_0 l0_0.length c0_0, .int .i64 a0_1], .slice A3 l3.length c3] rfl (by (try simp only [List.map_toArray, List.map_cons, List.map_nil]); first | done | rfl | (simp only [List.length_drop, List.length_take]; rfl)) ?_; (with_reducible refine (heronryref21_Pick.calls kj5 _ _ l0_0 a0_1 _ _ l3 t476 t479 t480 t481 _ ?side1 ?side2 ?side3 ?side4 A19.out).mono ?_); (case side1 => exact Kd.C_below HR0_0.out (by repeat (first | (with_reducible first | exact HB.out | apply below_alloc | apply pw_below_drewN | apply below_drew1 | refine below_set ?_ GE438.out | refine below_set ?_ GE444.out | refine below_set ?_ GE450.out | refine below_set ?_ GE456.out | refine below_set ?_ GE462.out | refine below_set ?_ GE468.out | refine below_set ?_ GE475.out) | exact HB.out))); (case side2 => exact HC0_0.out); (case side3 => exact Kd.C_below HR3.out (by repeat (first | (with_reducible first | exact HB.out | apply below_alloc | apply pw_below_drewN | apply below_drew1 | refine below_set ?_ GE438.out | refine below_set ?_ GE444.out | refine below_set ?_ GE450.out | refine below_set ?_ GE456.out | refine below_set ?_ GE462.out | refine below_set ?_ GE468.out | refine below_set ?_ GE475.out) | exact HB.out))); (case side4 => exact HC3.out); rintro e w93 ⟨v477, rfl, ho0, hb⟩; refine ⟨_, rfl, ?_⟩; have n0_ := Aside0.mk (Kd.R_below (by (with_reducible repeat (first | apply Kd.R_alloc | apply Kd.R_drewN | apply Kd.R_drew)); exact (Kd.R_mono (Kd.R_far (p := ⟨gb475, 1, none⟩) (Kd.R_far (p := ⟨gb475, 0, none⟩) (Kd.R_types HO442.out BK475.out (by decide)) (fun _ hk => hk.2) (.slice Ao84 t469.length co84)) (fun _ hk => hk.2) (.int .i64 t472)) (fun _ h_ => h_.1))) hb); have n1_ := Aside0.mk (Kd.R_below (by (with_reducible repeat (first | apply Kd.R_alloc | apply Kd.R_drewN | apply Kd.R_drew)); exact (Kd.R_mono (Kd.R_far (p := ⟨gb475, 1, none⟩) (Kd.R_far (p := ⟨gb475, 0, none⟩) (Kd.R_types HO447.out BK475.out (by decide)) (fun _ hk => hk.2) (.slice Ao84 t469.length co84)) (fun _ hk => hk.2) (.int .i64 t472)) (fun _ h_ => h_.1))) hb); have n2_ := Aside0.mk (Kd.R_elder' (by (with_reducible repeat (first | apply Kd.R_alloc | apply Kd.R_drewN | apply Kd.R_drew)); exact (Kd.R_mono (Kd.R_far (p := ⟨gb475, 1, none⟩) (Kd.R_far (p := ⟨gb475, 0, none⟩) (Kd.R_types HO453.out BK475.out (by decide)) (fun _ hk => hk.2) (.slice Ao84 t469.length co84)) (fun _ hk => hk.2) (.int .i64 t472)) (fun _ h_ => h_.1))) (Kd.R_base ho0) hb); have n3_ := Aside0.mk (Kd.R_below (by (with_reducible repeat (first | apply Kd.R_alloc | apply Kd.R_drewN | apply Kd.R_drew)); exact (Kd.R_mono (Kd.R_far (p := ⟨gb475, 1, none⟩) (Kd.R_far (p := ⟨gb475, 0, none⟩) (Kd.R_types HO459.out BK475.out (by decide)) (fun _ hk => hk.2) (.slice Ao84 t469.length co84)) (fun _ hk => hk.2) (.int .i64 t472)) (fun _ h_ => h_.1))) hb); have n4_ := Aside0.mk (Kd.R_elder' (by (with_reducible repeat (first | apply Kd.R_alloc | apply Kd.R_drewN | apply Kd.R_drew)); exact (Kd.R_mono (Kd.R_far (p := ⟨gb475, 1, none⟩) (Kd.R_far (p := ⟨gb475, 0, none⟩) (Kd.R_types HO465.out BK475.out (by decide)) (fun _ hk => hk.2) (.slice Ao84 t469.length co84)) (fun _ hk => hk.2) (.int .i64 t472)) (fun _ h_ => h_.1))) (Kd.R_base ho0) hb); have n5_ := Aside0.mk (Kd.R_below (by (with_reducible repeat (first | apply Kd.R_alloc | apply Kd.R_drewN | apply Kd.R_drew)); exact (Kd.R_mono (Kd.R_far (p := ⟨gb475, 1, none⟩) (Kd.R_far (p := ⟨gb475, 0, none⟩) (Kd.R_types HO471.out BK475.out (by decide)) (fun _ hk => hk.2) (.slice Ao84 t469.length co84)) (fun _ hk => hk.2) (.int .i64 t472)) (fun _ h_ => h_.1))) hb); have n6_ := Aside0.mk (Kd.R_lower (Kd.R_new' (Kd.R_new' ho0 (Kd.R_lt (by (with_reducible repeat (first | apply Kd.R_alloc | apply Kd.R_drewN | apply Kd.R_drew)); exact (Kd.R_mono (Kd.R_far (p := ⟨gb475, 1, none⟩) (Kd.R_far (p := ⟨gb475, 0, none⟩) (Kd.R_types HO453.out BK475.out (by decide)) (fun _ hk => hk.2) (.slice Ao84 t469.length co84)) (fun _ hk => hk.2) (.int .i64 t472)) (fun _ h_ => h_.1))))) (Kd.R_lt (by (with_reducible repeat (first | apply Kd.R_alloc | apply Kd.R_drewN | apply Kd.R_drew)); exact (Kd.R_mono (Kd.R_far (p := ⟨gb475, 1, none⟩) (Kd.R_far (p := ⟨gb475, 0, none⟩) (Kd.R_types HO465.out BK475.out (by decide)) (fun _ hk => hk.2) (.slice Ao84 t469.length co84)) (fun _ hk => hk.2) (.int .i64 t472)) (fun _ h_ => h_.1))))) (below_size (by repeat (first | (with_reducible first | exact HB.out | apply below_alloc | apply pw_below_drewN | apply below_drew1 | refine below_set ?_ GE438.out | refine below_set ?_ GE444.out | refine below_set ?_ GE450.out | refine below_set ?_ GE456.out | refine below_set ?_ GE462.out | refine below_set ?_ GE468.out | refine below_set ?_ GE475.out) | exact HB.out)))); have n7_ := Aside0.mk (blk_below (g := gb438) (o := .cells #[.slice A0_0 l0_0.length c0_0, .int .i64 a0_1] 39 (0, 0)) (by (with_reducible repeat (first | refine blk_drewN ?_ _ | refine blk_drew ?_ | refine blk_alloc ?_ _)); refine blk_far ?_ NB438_475.out _; (with_reducible repeat (first | refine blk_drewN ?_ _ | refine blk_drew ?_ | refine blk_alloc ?_ _)); refine blk_far ?_ NB438_475.out _; (with_reducible repeat (first | refine blk_drewN ?_ _ | refine blk_drew ?_ | refine blk_alloc ?_ _)); exact BK438.out) hb); have n8_ := Aside0.mk (blk_below (g := gb444) (o := .cells #[.slice Ao45 t440.length co45, .int .i64 t443] 26 (0, 0)) (by (with_reducible repeat (first | refine blk_drewN ?_ _ | refine blk_drew ?_ | refine blk_alloc ?_ _)); refine blk_far ?_ NB444_475.out _; (with_reducible repeat (first | refine blk_drewN ?_ _ | refine blk_drew ?_ | refine blk_alloc ?_ _)); refine blk_far ?_ NB444_475.out _; (with_reducible repeat (first | refine blk_drewN ?_ _ | refine blk_drew ?_ | refine blk_alloc ?_ _)); exact BK444.out) hb); have n9_ := Aside0.mk (blk_below (g := gb450) (o := .cells #[.slice Ao50 t445.length co50, .int .i64 t448] 26 (0, 0)) (by (with_reducible repeat (first | refine blk_drewN ?_ _ | refine blk_drew ?_ | refine blk_alloc ?_ _)); refine blk_far ?_ NB450_475.out _; (with_reducible repeat (first | refine blk_drewN ?_ _ | refine blk_drew ?_ | refine blk_alloc ?_ _)); refine blk_far ?_ NB450_475.out _; (with_reducible repeat (first | refine blk_drewN ?_ _ | refine blk_drew ?_ | refine blk_alloc ?_ _)); exact BK450.out) hb); have n10_ := Aside0.mk (blk_below (g := gb456) (o := .cells #[.slice Ao57 t451.length co57, .int .i64 t454] 39 (0, 0)) (by (with_reducible repeat (first | refine blk_drewN ?_ _ | refine blk_drew ?_ | refine blk_alloc ?_ _)); refine blk_far ?_ NB456_475.out _; (with_reducible repeat (first | refine blk_drewN ?_ _ | refine blk_drew ?_ | refine blk_alloc ?_ _)); refine blk_far ?_ NB456_475.out _; (with_reducible repeat (first | refine blk_drewN ?_ _ | refine blk_drew ?_ | refine blk_alloc ?_ _)); exact BK456.out) hb); have n11_ := Aside0.mk (blk_below (g := gb462) (o := .cells #[.slice Ao65 t457.length co65, .int .i64 t460] 26 (0, 0)) (by (with_reducible repeat (first | refine blk_drewN ?_ _ | refine blk_drew ?_ | refine blk_alloc ?_ _)); refine blk_far ?_ NB462_475.out _; (with_reducible repeat (first | refine blk_drewN ?_ _ | refine blk_drew ?_ | refine blk_alloc ?_ _)); refine blk_far ?_ NB462_475.out _; (with_reducible repeat (first | refine blk_drewN ?_ _ | refine blk_drew ?_ | refine blk_alloc ?_ _)); exact BK462.out) hb); have n12_ := Aside0.mk (blk_below (g := gb468) (o := .cells #[.slice Ao74 t463.length co74, .int .i64 t466] 39 (0, 0)) (by (with_reducible repeat (first | refine blk_drewN ?_ _ | refine blk_drew ?_ | refine blk_alloc ?_ _)); refine blk_far ?_ NB468_475.out _; (with_reducible repeat (first | refine blk_drewN ?_ _ | refine blk_drew ?_ | refine blk_alloc ?_ _)); refine blk_far ?_ NB468_475.out _; (with_reducible repeat (first | refine blk_drewN ?_ _ | refine blk_drew ?_ | refine blk_alloc ?_ _)); exact BK468.out) hb); have n13_ := Aside0.mk (blk_below (g := gb475) (o := .cells #[.slice Ao84 t469.length co84, .int .i64 t472] 26 (0, 0)) (by (with_reducible repeat (first | refine blk_drewN ?_ _ | refine blk_drew ?_ | refine blk_alloc ?_ _)); refine blk_put (cs := #[.slice Ao84 t469.length co84, .int .i64 0]) ?_ 1 _ rfl; (with_reducible repeat (first | refine blk_drewN ?_ _ | refine blk_drew ?_ | refine blk_alloc ?_ _)); refine blk_put (cs := #[.slice none 0 0, .int .i64 0]) ?_ 0 _ rfl; (with_reducible repeat (first | refine blk_drewN ?_ _ | refine blk_drew ?_ | refine blk_alloc ?_ _)); exact BK475.out) hb); have n14_ := Aside0.mk (below_step (by repeat (first | (with_reducible first | exact HB.out | apply below_alloc | apply pw_below_drewN | apply below_drew1 | refine below_set ?_ GE438.out | refine below_set ?_ GE444.out | refine below_set ?_ GE450.out | refine below_set ?_ GE456.out | refine below_set ?_ GE462.out | refine below_set ?_ GE468.out | refine below_set ?_ GE475.out) | exact HB.out)) hb); clear HO442; clear HO447; clear HO453; clear HO459; clear HO465; clear HO471; clear BK438; clear BK444; clear BK450; clear BK456; clear BK462; clear BK468; clear BK475; clear HB; have HO442 := n0_; have HO447 := n1_; have HO453 := n2_; have HO459 := n3_; have HO465 := n4_; have HO471 := n5_; have HO478 := n6_; have BK438 := n7_; have BK444 := n8_; have BK450 := n9_; have BK456 := n10_; have BK462 := n11_; have BK468 := n12_; have BK475 := n13_; have HB := n14_; clear n0_ n1_ n2_ n3_ n4_ n5_ n6_ n7_ n8_ n9_ n10_ n11_ n12_ n13_ n14_; (try clear hb); (try clear hb2); (try clear hk); (try clear hi); (try clear ho0)) | ((with_reducible refine gate_dst (N := 22) rfl ?_); (try (refine gate_guard (by rfl) ?_; dsimp only)); refine box_event ?hg (N := 22) ?hd (cs := #[.slice none 0 0, .int .i64 0]) (t := 39) ?hr ?_; (case hd => rfl); (case hg => rfl); (case hr => first | (go_simp; done) | (go_simp; rfl)); intro gb482 hg w94 hbox hb; have n0_ := Aside0.mk (Kd.R_below (by (with_reducible repeat (first | apply Kd.R_alloc | apply Kd.R_drewN | apply Kd.R_drew)); exact HO442.out) hb); have n1_ := Aside0.mk (Kd.R_below (by (with_reducible repeat (first | apply Kd.R_alloc | apply Kd.R_drewN | apply Kd.R_drew)); exact HO447.out) hb); have n2_ := Aside0.mk (Kd.R_below (by (with_reducible repeat (first | apply Kd.R_alloc | apply Kd.R_drewN | apply Kd.R_drew)); exact HO453.out) hb); have n3_ := Aside0.mk (Kd.R_below (by (with_reducible repeat (first | apply Kd.R_alloc | apply Kd.R_drewN | apply Kd.R_drew)); exact HO459.out) hb); have n4_ := Aside0.mk (Kd.R_below (by (with_reducible repeat (first | apply Kd.R_alloc | apply Kd.R_drewN | apply Kd.R_drew)); exact HO465.out) hb); have n5_ := Aside0.mk (Kd.R_below (by (with_reducible repeat (first | apply Kd.R_alloc | apply Kd.R_drewN | apply Kd.R_drew)); exact HO471.out) hb); have n6_ := Aside0.mk (Kd.R_below (by (with_reducible repeat (first | apply Kd.R_alloc | apply Kd.R_drewN | apply Kd.R_drew)); exact HO478.out) hb); have n7_ := Aside0.mk (blk_below (g := gb438) (o := .cells #[.slice A0_0 l0_0.length c0_0, .int .i64 a0_1] 39 (0, 0)) (by (with_reducible repeat (first | refine blk_drewN ?_ _ | refine blk_drew ?_ | refine blk_alloc ?_ _)); exact BK438.out) hb); have n8_ := Aside0.mk (blk_below (g := gb444) (o := .cells #[.slice Ao45 t440.length co45, .int .i64 t443] 26 (0, 0)) (by (with_reducible repeat (first | refine blk_drewN ?_ _ | refine blk_drew ?_ | refine blk_alloc ?_ _)); exact BK444.out) hb); have n9_ := Aside0.mk (blk_below (g := gb450) (o := .cells #[.slice Ao50 t445.length co50, .int .i64 t448] 26 (0, 0)) (by (with_reducible repeat (first | refine blk_drewN ?_ _ | refine blk_drew ?_ | refine blk_alloc ?_ _)); exact BK450.out) hb); have n10_ := Aside0.mk (blk_below (g := gb456) (o := .cells #[.slice Ao57 t451.length co57, .int .i64 t454] 39 (0, 0)) (by (with_reducible repeat (first | refine blk_drewN ?_ _ | refine blk_drew ?_ | refine blk_alloc ?_ _)); exact BK456.out) hb); have n11_ := Aside0.mk (blk_below (g := gb462) (o := .cells #[.slice Ao65 t457.length co65, .int .i64 t460] 26 (0, 0)) (by (with_reducible repeat (first | refine blk_drewN ?_ _ | refine blk_drew ?_ | refine blk_alloc ?_ _)); exact BK462.out) hb); have n12_ := Aside0.mk (blk_below (g := gb468) (o := .cells #[.slice Ao74 t463.length co74, .int .i64 t466] 39 (0, 0)) (by (with_reducible repeat (first | refine blk_drewN ?_ _ | refine blk_drew ?_ | refine blk_alloc ?_ _)); exact BK468.out) hb); have n13_ := Aside0.mk (blk_below (g := gb475) (o := .cells #[.slice Ao84 t469.length co84, .int .i64 t472] 26 (0, 0)) (by (with_reducible repeat (first | refine blk_drewN ?_ _ | refine blk_drew ?_ | refine blk_alloc ?_ _)); exact BK475.out) hb); have n14_ := Aside0.mk (below_step (by repeat (first | (with_reducible first | exact HB.out | apply below_alloc | apply pw_below_drewN | apply below_drew1 | refine below_set ?_ GE438.out | refine below_set ?_ GE444.out | refine below_set ?_ GE450.out | refine below_set ?_ GE456.out | refine below_set ?_ GE462.out | refine below_set ?_ GE468.out | refine below_set ?_ GE475.out) | exact HB.out)) hb); have n15_ := Aside0.mk (hbox); have n16_ := Aside0.mk ((by rw [hg]; exact (below_size (by repeat (first | (with_reducible first | exact HB.out | apply below_alloc | apply pw_below_drewN | apply below_drew1 | refine below_set ?_ GE438.out | refine below_set ?_ GE444.out | refine below_set ?_ GE450.out | refine below_set ?_ GE456.out | refine below_set ?_ GE462.out | refine below_set ?_ GE468.out | refine below_set ?_ GE475.out) | exact HB.out))) : w.heap.size ≤ gb482)); have n17_ := Aside0.mk ((by rw [hg]; exact (below_size (by repeat (first | (with_reducible first | exact HB.out | apply below_alloc | apply pw_below_drewN | apply below_drew1 | refine below_set ?_ GE438.out | refine below_set ?_ GE444.out | refine below_set ?_ GE450.out | refine below_set ?_ GE456.out | refine below_set ?_ GE462.out | refine below_set ?_ GE468.out | refine below_set ?_ GE475.out) | exact HB.out))) : w.heap.size ≤ gb482)); have n18_ := Aside0.mk ((by rw [hg]; exact Nat.ne_of_lt (blk_lt (g := gb438) (o := .cells #[.slice A0_0 l0_0.length c0_0, .int .i64 a0_1] 39 (0, 0)) (by (with_reducible repeat (first | refine blk_drewN ?_ _ | refine blk_drew ?_ | refine blk_alloc ?_ _)); exact BK438.out)) : gb438 ≠ gb482)); have n19_ := Aside0.mk ((by rw [hg]; exact Nat.ne_of_gt (blk_lt (g := gb438) (o := .cells #[.slice A0_0 l0_0.length c0_0, .int .i64 a0_1] 39 (0, 0)) (by (with_reducible repeat (first | refine blk_drewN ?_ _ | refine blk_drew ?_ | refine blk_alloc ?_ _)); exact BK438.out)) : gb482 ≠ gb438)); have n20_ := Aside0.mk ((by rw [hg]; exact Nat.ne_of_lt (blk_lt (g := gb444) (o := .cells #[.slice Ao45 t440.length co45, .int .i64 t443] 26 (0, 0)) (by (with_reducible repeat (first | refine blk_drewN ?_ _ | refine blk_drew ?_ | refine blk_alloc ?_ _)); exact BK444.out)) : gb444 ≠ gb482)); have n21_ := Aside0.mk ((by rw [hg]; exact Nat.ne_of_gt (blk_lt (g := gb444) (o := .cells #[.slice Ao45 t440.length co45, .int .i64 t443] 26 (0, 0)) (by (with_reducible repeat (first | refine blk_drewN ?_ _ | refine blk_drew ?_ | refine blk_alloc ?_ _)); exact BK444.out)) : gb482 ≠ gb444)); have n22_ := Aside0.mk ((by rw [hg]; exact Nat.ne_of_lt (blk_lt (g := gb450) (o := .cells #[.slice Ao50 t445.length co50, .int .i64 t448] 26 (0, 0)) (by (with_reducible repeat (first | refine blk_drewN ?_ _ | refine blk_drew ?_ | refine blk_alloc ?_ _)); exact BK450.out)) : gb450 ≠ gb482)); have n23_ := Aside0.mk ((by rw [hg]; exact Nat.ne_of_gt (blk_lt (g := gb450) (o := .cells #[.slice Ao50 t445.length co50, .int .i64 t448] 26 (0, 0)) (by (with_reducible repeat (first | refine blk_drewN ?_ _ | refine blk_drew ?_ | refine blk_alloc ?_ _)); exact BK450.out)) : gb482 ≠ gb450)); have n24_ := Aside0.mk ((by rw [hg]; exact Nat.ne_of_lt (blk_lt (g := gb456) (o := .cells #[.slice Ao57 t451.length co57, .int .i64 t454] 39 (0, 0)) (by (with_reducible repeat (first | refine blk_drewN ?_ _ | refine blk_drew ?_ | refine blk_alloc ?_ _)); exact BK456.out)) : gb456 ≠ gb482)); have n25_ := Aside0.mk ((by rw [hg]; exact Nat.ne_of_gt (blk_lt (g := gb456) (o := .cells #[.slice Ao57 t451.length co57, .int .i64 t454] 39 (0, 0)) (by (with_reducible repeat (first | refine blk_drewN ?_ _ | refine blk_drew ?_ | refine blk_alloc ?_ _)); exact BK456.out)) : gb482 ≠ gb456)); have n26_ := Aside0.mk ((by rw [hg]; exact Nat.ne_of_lt (blk_lt (g := gb462) (o := .cells #[.slice Ao65 t457.length co65, .int .i64 t460] 26 (0, 0)) (by (with_reducible repeat (first | refine blk_drewN ?_ _ | refine blk_drew ?_ | refine blk_alloc ?_ _)); exact BK462.out)) : gb462 ≠ gb482)); have n27_ := Aside0.mk ((by rw [hg]; exact Nat.ne_of_gt (blk_lt (g := gb462) (o := .cells #[.slice Ao65 t457.length co65, .int .i64 t460] 26 (0, 0)) (by (with_reducible repeat (first | refine blk_drewN ?_ _ | refine blk_drew ?_ | refine blk_alloc ?_ _)); exact BK462.out)) : gb482 ≠ gb462)); have n28_ := Aside0.mk ((by rw [hg]; exact Nat.ne_of_lt (blk_lt (g := gb468) (o := .cells #[.slice Ao74 t463.length co74, .int .i64 t466] 39 (0, 0)) (by (with_reducible repeat (first | refine blk_drewN ?_ _ | refine blk_drew ?_ | refine blk_alloc ?_ _)); exact BK468.out)) : gb468 ≠ gb482)); have n29_ := Aside0.mk ((by rw [hg]; exact Nat.ne_of_gt (blk_lt (g := gb468) (o := .cells #[.slice Ao74 t463.length co74, .int .i64 t466] 39 (0, 0)) (by (with_reducible repeat (first | refine blk_drewN ?_ _ | refine blk_drew ?_ | refine blk_alloc ?_ _)); exact BK468.out)) : gb482 ≠ gb468)); have n30_ := Aside0.mk ((by rw [hg]; exact Nat.ne_of_lt (blk_lt (g := gb475) (o := .cells #[.slice Ao84 t469.length co84, .int .i64 t472] 26 (0, 0)) (by (with_reducible repeat (first | refine blk_drewN ?_ _ | refine blk_drew ?_ | refine blk_alloc ?_ _)); exact BK475.out)) : gb475 ≠ gb482)); have n31_ := Aside0.mk ((by rw [hg]; exact Nat.ne_of_gt (blk_lt (g := gb475) (o := .cells #[.slice Ao84 t469.length co84, .int .i64 t472] 26 (0, 0)) (by (with_reducible repeat (first | refine blk_drewN ?_ _ | refine blk_drew ?_ | refine blk_alloc ?_ _)); exact BK475.out)) : gb482 ≠ gb475)); clear HO442; clear HO447; clear HO453; clear HO459; clear HO465; clear HO471; clear HO478; clear BK438; clear BK444; clear BK450; clear BK456; clear BK462; clear BK468; clear BK475; clear HB; have HO442 := n0_; have HO447 := n1_; have HO453 := n2_; have HO459 := n3_; have HO465 := n4_; have HO471 := n5_; have HO478 := n6_; have BK438 := n7_; have BK444 := n8_; have BK450 := n9_; have BK456 := n10_; have BK462 := n11_; have BK468 := n12_; have BK475 := n13_; have HB := n14_; have BK482 := n15_; have GW482 := n16_; have GE482 := n17_; have NB438_482 := n18_; have NB482_438 := n19_; have NB444_482 := n20_; have NB482_444 := n21_; have NB450_482 := n22_; have NB482_450 := n23_; have NB456_482 := n24_; have NB482_456 := n25_; have NB462_482 := n26_; have NB482_462 := n27_; have NB468_482 := n28_; have NB482_468 := n29_; have NB475_482 := n30_; have NB482_475 := n31_; clear n0_ n1_ n2_ n3_ n4_ n5_ n6_ n7_ n8_ n9_ n10_ n11_ n12_ n13_ n14_ n15_ n16_ n17_ n18_ n19_ n20_ n21_ n22_ n23_ n24_ n25_ n26_ n27_ n28_ n29_ n30_ n31_; clear hb hbox hg; obtain ⟨Ao95, co95, eo95⟩ := Kd.R_slice HO478.out; subst eo95; have hnb96 := NB482_438.out; have hnc96 := NB438_482.out; have hnb97 := NB482_444.out; have hnc97 := NB444_482.out; have hnb98 := NB482_450.out; have hnc98 := NB450_482.out; have hnb99 := NB482_456.out; have hnc99 := NB456_482.out; have hnb100 := NB482_462.out; have hnc100 := NB462_482.out; have hnb101 := NB482_468.out; have hnc101 := NB468_482.out; have hnb102 := NB482_475.out; have hnc102 := NB475_482.out; have hcz103_0 : w94.cell? ⟨gb482, 0, none⟩ = some (.slice none 0 0) := (blk_cell BK482.out 0).trans rfl; have hcz103_1 : w94.cell? ⟨gb482, 1, none⟩ = some (.int .i64 0) := (blk_cell BK482.out 1).trans rfl; have hfz103_0 := blk_frozen BK482.out 0; have hfz103_1 := blk_frozen BK482.out 1))
              have n0_ : Aside0 (Kd.R k44 44 ((w94.setCell ⟨gb482, 0, none⟩ (.slice Ao95 t476.length co95)).setCell ⟨gb482, 1, none⟩ (.int .i64 t479)) w.heap.size (fun k_ => some k_ ≠ (.slice Ao50 t445.length co50 : Value).ownBlock ∧ some k_ ≠ (.slice Ao65 t457.length co65 : Value).ownBlock ∧ some k_ ≠ (.slice Ao84 t469.length co84 : Value).ownBlock) (.slice Ao45 t440.length co45) t440) := ⟨by (with_reducible repeat (first | apply Kd.R_alloc | apply Kd.R_drewN | apply Kd.R_drew)); exact Kd.R_mono (Kd.R_far (p := ⟨gb482, 1, none⟩) (Kd.R_far (p := ⟨gb482, 0, none⟩) (Kd.R_types HO442.out BK482.out (by decide)) (fun _ hk => hk.2) (.slice Ao95 t476.length co95)) (fun _ hk => hk.2) (.int .i64 t479)) (fun _ hk => ⟨hk.1.1.1.2, ⟨hk.1.1.2, hk.1.2⟩⟩)⟩
              have n1_ : Aside0 (Kd.R k44 44 ((w94.setCell ⟨gb482, 0, none⟩ (.slice Ao95 t476.length co95)).setCell ⟨gb482, 1, none⟩ (.int .i64 t479)) w.heap.size (fun k_ => some k_ ≠ (.slice Ao45 t440.length co45 : Value).ownBlock ∧ some k_ ≠ (.slice Ao65 t457.length co65 : Value).ownBlock ∧ some k_ ≠ (.slice Ao84 t469.length co84 : Value).ownBlock) (.slice Ao50 t445.length co50) t445) := ⟨by (with_reducible repeat (first | apply Kd.R_alloc | apply Kd.R_drewN | apply Kd.R_drew)); exact Kd.R_mono (Kd.R_far (p := ⟨gb482, 1, none⟩) (Kd.R_far (p := ⟨gb482, 0, none⟩) (Kd.R_types HO447.out BK482.out (by decide)) (fun _ hk => hk.2) (.slice Ao95 t476.length co95)) (fun _ hk => hk.2) (.int .i64 t479)) (fun _ hk => ⟨hk.1.1.1.2, ⟨hk.1.1.2, hk.1.2⟩⟩)⟩
              have n2_ : Aside0 (Kd.R k43 43 ((w94.setCell ⟨gb482, 0, none⟩ (.slice Ao95 t476.length co95)).setCell ⟨gb482, 1, none⟩ (.int .i64 t479)) w.heap.size (fun k_ => some k_ ≠ (.slice Ao74 t463.length co74 : Value).ownBlock ∧ some k_ ≠ (.slice Ao95 t476.length co95 : Value).ownBlock) (.slice Ao57 t451.length co57) t451) := ⟨by (with_reducible repeat (first | apply Kd.R_alloc | apply Kd.R_drewN | apply Kd.R_drew)); exact Kd.R_mono (Kd.R_far (p := ⟨gb482, 1, none⟩) (Kd.R_far (p := ⟨gb482, 0, none⟩) (Kd.R_types HO453.out BK482.out (by decide)) (fun _ hk => hk.2) (.slice Ao95 t476.length co95)) (fun _ hk => hk.2) (.int .i64 t479)) (fun _ hk => ⟨hk.1.1.2, hk.1.2⟩)⟩
              have n3_ : Aside0 (Kd.R k44 44 ((w94.setCell ⟨gb482, 0, none⟩ (.slice Ao95 t476.length co95)).setCell ⟨gb482, 1, none⟩ (.int .i64 t479)) w.heap.size (fun k_ => some k_ ≠ (.slice Ao45 t440.length co45 : Value).ownBlock ∧ some k_ ≠ (.slice Ao50 t445.length co50 : Value).ownBlock ∧ some k_ ≠ (.slice Ao84 t469.length co84 : Value).ownBlock) (.slice Ao65 t457.length co65) t457) := ⟨by (with_reducible repeat (first | apply Kd.R_alloc | apply Kd.R_drewN | apply Kd.R_drew)); exact Kd.R_mono (Kd.R_far (p := ⟨gb482, 1, none⟩) (Kd.R_far (p := ⟨gb482, 0, none⟩) (Kd.R_types HO459.out BK482.out (by decide)) (fun _ hk => hk.2) (.slice Ao95 t476.length co95)) (fun _ hk => hk.2) (.int .i64 t479)) (fun _ hk => ⟨hk.1.1.1.2, ⟨hk.1.1.2, hk.1.2⟩⟩)⟩
              have n4_ : Aside0 (Kd.R k43 43 ((w94.setCell ⟨gb482, 0, none⟩ (.slice Ao95 t476.length co95)).setCell ⟨gb482, 1, none⟩ (.int .i64 t479)) w.heap.size (fun k_ => some k_ ≠ (.slice Ao57 t451.length co57 : Value).ownBlock ∧ some k_ ≠ (.slice Ao95 t476.length co95 : Value).ownBlock) (.slice Ao74 t463.length co74) t463) := ⟨by (with_reducible repeat (first | apply Kd.R_alloc | apply Kd.R_drewN | apply Kd.R_drew)); exact Kd.R_mono (Kd.R_far (p := ⟨gb482, 1, none⟩) (Kd.R_far (p := ⟨gb482, 0, none⟩) (Kd.R_types HO465.out BK482.out (by decide)) (fun _ hk => hk.2) (.slice Ao95 t476.length co95)) (fun _ hk => hk.2) (.int .i64 t479)) (fun _ hk => ⟨hk.1.1.2, hk.1.2⟩)⟩
              have n5_ : Aside0 (Kd.R k44 44 ((w94.setCell ⟨gb482, 0, none⟩ (.slice Ao95 t476.length co95)).setCell ⟨gb482, 1, none⟩ (.int .i64 t479)) w.heap.size (fun k_ => some k_ ≠ (.slice Ao45 t440.length co45 : Value).ownBlock ∧ some k_ ≠ (.slice Ao50 t445.length co50 : Value).ownBlock ∧ some k_ ≠ (.slice Ao65 t457.length co65 : Value).ownBlock) (.slice Ao84 t469.length co84) t469) := ⟨by (with_reducible repeat (first | apply Kd.R_alloc | apply Kd.R_drewN | apply Kd.R_drew)); exact Kd.R_mono (Kd.R_far (p := ⟨gb482, 1, none⟩) (Kd.R_far (p := ⟨gb482, 0, none⟩) (Kd.R_types HO471.out BK482.out (by decide)) (fun _ hk => hk.2) (.slice Ao95 t476.length co95)) (fun _ hk => hk.2) (.int .i64 t479)) (fun _ hk => ⟨hk.1.1.1.2, ⟨hk.1.1.2, hk.1.2⟩⟩)⟩
              have n6_ : Aside0 (Kd.R k43 43 ((w94.setCell ⟨gb482, 0, none⟩ (.slice Ao95 t476.length co95)).setCell ⟨gb482, 1, none⟩ (.int .i64 t479)) w.heap.size (fun k_ => some k_ ≠ (.slice Ao57 t451.length co57 : Value).ownBlock ∧ some k_ ≠ (.slice Ao74 t463.length co74 : Value).ownBlock) (.slice Ao95 t476.length co95) t476) := ⟨by (with_reducible repeat (first | apply Kd.R_alloc | apply Kd.R_drewN | apply Kd.R_drew)); exact Kd.R_mono (Kd.R_far (p := ⟨gb482, 1, none⟩) (Kd.R_far (p := ⟨gb482, 0, none⟩) (Kd.R_types HO478.out BK482.out (by decide)) (fun _ hk => hk.2) (.slice Ao95 t476.length co95)) (fun _ hk => hk.2) (.int .i64 t479)) (fun _ hk => ⟨hk.1.1.2, hk.1.2⟩)⟩
              have n7_ : Aside0 (((w94.setCell ⟨gb482, 0, none⟩ (.slice Ao95 t476.length co95)).setCell ⟨gb482, 1, none⟩ (.int .i64 t479)).heap[gb438]? = some (.cells #[.slice A0_0 l0_0.length c0_0, .int .i64 a0_1] 39 (0, 0))) := ⟨by (with_reducible repeat (first | refine blk_drewN ?_ _ | refine blk_drew ?_ | refine blk_alloc ?_ _)); refine blk_far ?_ NB438_482.out _; (with_reducible repeat (first | refine blk_drewN ?_ _ | refine blk_drew ?_ | refine blk_alloc ?_ _)); refine blk_far ?_ NB438_482.out _; (with_reducible repeat (first | refine blk_drewN ?_ _ | refine blk_drew ?_ | refine blk_alloc ?_ _)); exact BK438.out⟩
              have n8_ : Aside0 (((w94.setCell ⟨gb482, 0, none⟩ (.slice Ao95 t476.length co95)).setCell ⟨gb482, 1, none⟩ (.int .i64 t479)).heap[gb444]? = some (.cells #[.slice Ao45 t440.length co45, .int .i64 t443] 26 (0, 0))) := ⟨by (with_reducible repeat (first | refine blk_drewN ?_ _ | refine blk_drew ?_ | refine blk_alloc ?_ _)); refine blk_far ?_ NB444_482.out _; (with_reducible repeat (first | refine blk_drewN ?_ _ | refine blk_drew ?_ | refine blk_alloc ?_ _)); refine blk_far ?_ NB444_482.out _; (with_reducible repeat (first | refine blk_drewN ?_ _ | refine blk_drew ?_ | refine blk_alloc ?_ _)); exact BK444.out⟩
              have n9_ : Aside0 (((w94.setCell ⟨gb482, 0, none⟩ (.slice Ao95 t476.length co95)).setCell ⟨gb482, 1, none⟩ (.int .i64 t479)).heap[gb450]? = some (.cells #[.slice Ao50 t445.length co50, .int .i64 t448] 26 (0, 0))) := ⟨by (with_reducible repeat (first | refine blk_drewN ?_ _ | refine blk_drew ?_ | refine blk_alloc ?_ _)); refine blk_far ?_ NB450_482.out _; (with_reducible repeat (first | refine blk_drewN ?_ _ | refine blk_drew ?_ | refine blk_alloc ?_ _)); refine blk_far ?_ NB450_482.out _; (with_reducible repeat (first | refine blk_drewN ?_ _ | refine blk_drew ?_ | refine blk_alloc ?_ _)); exact BK450.out⟩
              have n10_ : Aside0 (((w94.setCell ⟨gb482, 0, none⟩ (.slice Ao95 t476.length co95)).setCell ⟨gb482, 1, none⟩ (.int .i64 t479)).heap[gb456]? = some (.cells #[.slice Ao57 t451.length co57, .int .i64 t454] 39 (0, 0))) := ⟨by (with_reducible repeat (first | refine blk_drewN ?_ _ | refine blk_drew ?_ | refine blk_alloc ?_ _)); refine blk_far ?_ NB456_482.out _; (with_reducible repeat (first | refine blk_drewN ?_ _ | refine blk_drew ?_ | refine blk_alloc ?_ _)); refine blk_far ?_ NB456_482.out _; (with_reducible repeat (first | refine blk_drewN ?_ _ | refine blk_drew ?_ | refine blk_alloc ?_ _)); exact BK456.out⟩
              have n11_ : Aside0 (((w94.setCell ⟨gb482, 0, none⟩ (.slice Ao95 t476.length co95)).setCell ⟨gb482, 1, none⟩ (.int .i64 t479)).heap[gb462]? = some (.cells #[.slice Ao65 t457.length co65, .int .i64 t460] 26 (0, 0))) := ⟨by (with_reducible repeat (first | refine blk_drewN ?_ _ | refine blk_drew ?_ | refine blk_alloc ?_ _)); refine blk_far ?_ NB462_482.out _; (with_reducible repeat (first | refine blk_drewN ?_ _ | refine blk_drew ?_ | refine blk_alloc ?_ _)); refine blk_far ?_ NB462_482.out _; (with_reducible repeat (first | refine blk_drewN ?_ _ | refine blk_drew ?_ | refine blk_alloc ?_ _)); exact BK462.out⟩
              have n12_ : Aside0 (((w94.setCell ⟨gb482, 0, none⟩ (.slice Ao95 t476.length co95)).setCell ⟨gb482, 1, none⟩ (.int .i64 t479)).heap[gb468]? = some (.cells #[.slice Ao74 t463.length co74, .int .i64 t466] 39 (0, 0))) := ⟨by (with_reducible repeat (first | refine blk_drewN ?_ _ | refine blk_drew ?_ | refine blk_alloc ?_ _)); refine blk_far ?_ NB468_482.out _; (with_reducible repeat (first | refine blk_drewN ?_ _ | refine blk_drew ?_ | refine blk_alloc ?_ _)); refine blk_far ?_ NB468_482.out _; (with_reducible repeat (first | refine blk_drewN ?_ _ | refine blk_drew ?_ | refine blk_alloc ?_ _)); exact BK468.out⟩
              have n13_ : Aside0 (((w94.setCell ⟨gb482, 0, none⟩ (.slice Ao95 t476.length co95)).setCell ⟨gb482, 1, none⟩ (.int .i64 t479)).heap[gb475]? = some (.cells #[.slice Ao84 t469.length co84, .int .i64 t472] 26 (0, 0))) := ⟨by (with_reducible repeat (first | refine blk_drewN ?_ _ | refine blk_drew ?_ | refine blk_alloc ?_ _)); refine blk_far ?_ NB475_482.out _; (with_reducible repeat (first | refine blk_drewN ?_ _ | refine blk_drew ?_ | refine blk_alloc ?_ _)); refine blk_far ?_ NB475_482.out _; (with_reducible repeat (first | refine blk_drewN ?_ _ | refine blk_drew ?_ | refine blk_alloc ?_ _)); exact BK475.out⟩
              have n14_ : Aside0 (((w94.setCell ⟨gb482, 0, none⟩ (.slice Ao95 t476.length co95)).setCell ⟨gb482, 1, none⟩ (.int .i64 t479)).heap[gb482]? = some (.cells #[.slice Ao95 t476.length co95, .int .i64 t479] 39 (0, 0))) := ⟨by (with_reducible repeat (first | refine blk_drewN ?_ _ | refine blk_drew ?_ | refine blk_alloc ?_ _)); refine blk_put (cs := #[.slice Ao95 t476.length co95, .int .i64 0]) ?_ 1 _ rfl; (with_reducible repeat (first | refine blk_drewN ?_ _ | refine blk_drew ?_ | refine blk_alloc ?_ _)); refine blk_put (cs := #[.slice none 0 0, .int .i64 0]) ?_ 0 _ rfl; (with_reducible repeat (first | refine blk_drewN ?_ _ | refine blk_drew ?_ | refine blk_alloc ?_ _)); exact BK482.out⟩
              have n15_ : Aside0 (Below w.heap.size w ((w94.setCell ⟨gb482, 0, none⟩ (.slice Ao95 t476.length co95)).setCell ⟨gb482, 1, none⟩ (.int .i64 t479))) := ⟨by repeat (first | (with_reducible first | exact HB.out | apply below_alloc | apply pw_below_drewN | apply below_drew1 | refine below_set ?_ GE438.out | refine below_set ?_ GE444.out | refine below_set ?_ GE450.out | refine below_set ?_ GE456.out | refine below_set ?_ GE462.out | refine below_set ?_ GE468.out | refine below_set ?_ GE475.out | refine below_set ?_ GE482.out) | exact HB.out)⟩
              (try clear HO442)
              (try clear HO447)
              (try clear HO453)
              (try clear HO459)
              (try clear HO465)
              (try clear HO471)
              (try clear HO478)
              (try clear BK438)
              (try clear BK444)
              (try clear BK450)
              (try clear BK456)
              (try clear BK462)
              (try clear BK468)
              (try clear BK475)
              (try clear BK482)
              (try clear HB)
              generalize ((w94.setCell ⟨gb482, 0, none⟩ (.slice Ao95 t476.length co95)).setCell ⟨gb482, 1, none⟩ (.int .i64 t479)) = w104 at n0_ n1_ n2_ n3_ n4_ n5_ n6_ n7_ n8_ n9_ n10_ n11_ n12_ n13_ n14_ n15_ ⊢
              have HO442 := n0_
              have HO447 := n1_
              have HO453 := n2_
              have HO459 := n3_
              have HO465 := n4_
              have HO471 := n5_
              have HO478 := n6_
              have BK438 := n7_
              have BK444 := n8_
              have BK450 := n9_
              have BK456 := n10_
              have BK462 := n11_
              have BK468 := n12_
              have BK475 := n13_
              have BK482 := n14_
              have HB := n15_
              clear n0_ n1_ n2_ n3_ n4_ n5_ n6_ n7_ n8_ n9_ n10_ n11_ n12_ n13_ n14_ n15_
              have n0_ := Aside0.mk (Kd.R_drew HO442.out)
              have n1_ := Aside0.mk (Kd.R_drew HO447.out)
              have n2_ := Aside0.mk (Kd.R_drew HO453.out)
              have n3_ := Aside0.mk (Kd.R_drew HO459.out)
              have n4_ := Aside0.mk (Kd.R_drew HO465.out)
              have n5_ := Aside0.mk (Kd.R_drew HO471.out)
              have n6_ := Aside0.mk (Kd.R_drew HO478.out)
              have n7_ := Aside0.mk (blk_drew BK438.out)
              have n8_ := Aside0.mk (blk_drew BK444.out)
              have n9_ := Aside0.mk (blk_drew BK450.out)
              have n10_ := Aside0.mk (blk_drew BK456.out)
              have n11_ := Aside0.mk (blk_drew BK462.out)
              have n12_ := Aside0.mk (blk_drew BK468.out)
              have n13_ := Aside0.mk (blk_drew BK475.out)
              have n14_ := Aside0.mk (blk_drew BK482.out)
              have n15_ := Aside0.mk (below_drew1 HB.out)
              clear HO442
              clear HO447
              clear HO453
              clear HO459
              clear HO465
              clear HO471
              clear HO478
              clear BK438
              clear BK444
              clear BK450
              clear BK456
              clear BK462
              clear BK468
              clear BK475
              clear BK482
              clear HB
              have HO442 := n0_
              have HO447 := n1_
              have HO453 := n2_
              have HO459 := n3_
              have HO465 := n4_
              have HO471 := n5_
              have HO478 := n6_
              have BK438 := n7_
              have BK444 := n8_
              have BK450 := n9_
              have BK456 := n10_
              have BK462 := n11_
              have BK468 := n12_
              have BK475 := n13_
              have BK482 := n14_
              have HB := n15_
              clear n0_ n1_ n2_ n3_ n4_ n5_ n6_ n7_ n8_ n9_ n10_ n11_ n12_ n13_ n14_ n15_
              refine start_ (n := 60) (S := fun w' => w'.cell? ⟨gb444, 0, none⟩ = some (.slice Ao45 t440.length co45) ∧ w'.cell? ⟨gb444, 1, none⟩ = some (.int .i64 t443) ∧ w'.cell? ⟨gb438, 0, none⟩ = some (.slice A0_0 l0_0.length c0_0) ∧ w'.cell? ⟨gb438, 1, none⟩ = some (.int .i64 a0_1) ∧ w'.cell? ⟨gb450, 0, none⟩ = some (.slice Ao50 t445.length co50) ∧ w'.cell? ⟨gb450, 1, none⟩ = some (.int .i64 t448) ∧ w'.cell? ⟨gb456, 0, none⟩ = some (.slice Ao57 t451.length co57) ∧ w'.cell? ⟨gb456, 1, none⟩ = some (.int .i64 t454) ∧ w'.cell? ⟨gb462, 0, none⟩ = some (.slice Ao65 t457.length co65) ∧ w'.cell? ⟨gb462, 1, none⟩ = some (.int .i64 t460) ∧ w'.cell? ⟨gb468, 0, none⟩ = some (.slice Ao74 t463.length co74) ∧ w'.cell? ⟨gb468, 1, none⟩ = some (.int .i64 t466) ∧ w'.cell? ⟨gb475, 0, none⟩ = some (.slice Ao84 t469.length co84) ∧ w'.cell? ⟨gb475, 1, none⟩ = some (.int .i64 t472) ∧ w'.cell? ⟨gb482, 0, none⟩ = some (.slice Ao95 t476.length co95) ∧ w'.cell? ⟨gb482, 1, none⟩ = some (.int .i64 t479)) (ds := []) #[false, false, false, false, false, false, false, false, false, false, false, false, false, false, false, false, false, false, false, false, false, false, false, false, false, false, false, false, false, false, false, false, false, false, false, false, false, false, false, false, false, false, false, false, false, false, false, false, false, false, false, false, false, false, false, false, false, false, false, false] (by kernel_rfl) rfl rfl ⟨(blk_cell BK444.out 0).trans rfl, (blk_cell BK444.out 1).trans rfl, (blk_cell BK438.out 0).trans rfl, (blk_cell BK438.out 1).trans rfl, (blk_cell BK450.out 0).trans rfl, (blk_cell BK450.out 1).trans rfl, (blk_cell BK456.out 0).trans rfl, (blk_cell BK456.out 1).trans rfl, (blk_cell BK462.out 0).trans rfl, (blk_cell BK462.out 1).trans rfl, (blk_cell BK468.out 0).trans rfl, (blk_cell BK468.out 1).trans rfl, (blk_cell BK475.out 0).trans rfl, (blk_cell BK475.out 1).trans rfl, (blk_cell BK482.out 0).trans rfl, (blk_cell BK482.out 1).trans rfl⟩ (fun hHeld => ?_); refine with_tabW heronrylaw21_SchedIs.tab11 heronrylaw21_SchedIs.bits11 (fun HT_ HW_ => ?_)
              generalize w104.drew = w105 at HO442 HO447 HO453 HO459 HO465 HO471 HO478 BK438 BK444 BK450 BK456 BK462 BK468 BK475 BK482 HB hHeld ⊢
              refine pure_ (i := 0) (N := some 78) (v := ?_) (a' := ?_) #[true, false, false, false, false, false, false, false, false, false, false, false, false, false, false, false, false, false, false, false, false, false, false, false, false, false, false, false, false, false, false, false, false, false, false, false, false, false, false, false, false, false, false, false, false, false, false, false, false, false, false, false, false, false, false, false, false, false, false, false] rfl rfl (any_of HT_.out (by kernel_rfl)) (fun _ _ _ h => h) (Or.inl ⟨by rfl, ?_⟩) ?_ ?_
              rotate_left
              ·intro w'
               go_simp
               with_reducible rfl
              rotate_left
              ·simp only [Act.put, List.setIfInBounds_toArray, List.set_cons_zero, List.set_cons_succ, i64_w, i32_w]
               rfl
              refine pure_ (i := 1) (N := some 79) (v := ?_) (a' := ?_) #[true, true, false, false, false, false, false, false, false, false, false, false, false, false, false, false, false, false, false, false, false, false, false, false, false, false, false, false, false, false, false, false, false, false, false, false, false, false, false, false, false, false, false, false, false, false, false, false, false, false, false, false, false, false, false, false, false, false, false, false] rfl rfl (any_of HT_.out (by kernel_rfl)) (fun _ _ _ h => h) (Or.inl ⟨by rfl, ?_⟩) ?_ ?_
              rotate_left
              ·intro w'
               go_simp
               with_reducible rfl
              rotate_left
              ·simp only [Act.put, List.setIfInBounds_toArray, List.set_cons_zero, List.set_cons_succ, i64_w, i32_w]
               rfl
              refine take_ (i := 2) (N := some 80) (v := ?_) (a' := ?_) #[true, true, true, false, false, false, false, false, false, false, false, false, false, false, false, false, false, false, false, false, false, false, false, false, false, false, false, false, false, false, false, false, false, false, false, false, false, false, false, false, false, false, false, false, false, false, false, false, false, false, false, false, false, false, false, false, false, false, false, false] rfl rfl (take_ofW HT_.out HW_.out (by kernel_rfl)) (fun _ _ _ h => h) (Or.inl ⟨by rfl, ?_⟩) hHeld ?_ ?_
              rotate_left
              ·rintro w' ⟨s0, s1, s2, s3, s4, s5, s6, s7, s8, s9, s10, s11, s12, s13, s14, s15⟩
               go_simp
               with_reducible rfl
              rotate_left
              ·simp only [Act.put, List.setIfInBounds_toArray, List.set_cons_zero, List.set_cons_succ, i64_w, i32_w]
               rfl
              refine take_ (i := 4) (N := some 82) (v := ?_) (a' := ?_) #[true, true, true, false, true, false, false, false, false, false, false, false, false, false, false, false, false, false, false, false, false, false, false, false, false, false, false, false, false, false, false, false, false, false, false, false, false, false, false, false, false, false, false, false, false, false, false, false, false, false, false, false, false, false, false, false, false, false, false, false] rfl rfl (take_ofW HT_.out HW_.out (by kernel_rfl)) (fun _ _ _ h => h) (Or.inl ⟨by rfl, ?_⟩) hHeld ?_ ?_
              rotate_left
              ·rintro w' ⟨s0, s1, s2, s3, s4, s5, s6, s7, s8, s9, s10, s11, s12, s13, s14, s15⟩
               go_simp
               with_reducible rfl
              rotate_left
              ·simp only [Act.put, List.setIfInBounds_toArray, List.set_cons_zero, List.set_cons_succ, i64_w, i32_w]
               rfl
              refine one_ (i := 3) (N := some 81) #[true, true, true, true, true, false, false, false, false, false, false, false, false, false, false, false, false, false, false, false, false, false, false, false, false, false, false, false, false, false, false, false, false, false, false, false, false, false, false, false, false, false, false, false, false, false, false, false, false, false, false, false, false, false, false, false, false, false, false, false] rfl rfl (one_of HT_.out (by kernel_rfl)) (by decide) (fun K hK => ?_)
              refine goes_ Try.func22 (by kernel_rfl) rfl #[.agg #[.slice Ao45 t440.length co45, .int .i64 t443]] (by rfl) rfl rfl (by (try simp only [List.map_toArray, List.map_cons, List.map_nil]); first | done | rfl | (simp only [List.length_drop, List.length_take]; rfl)) ?_
              with_reducible refine (sched_Sane.calls kj5 _ _ t440 t443 t483 _ ?side1 ?side2 A21.out).mono ?_
              (case side1 => repeat (first | exact (Kd.R_reads' HO442.out).2.2 | (with_reducible refine Kd.C_alloc ?_ _) | (with_reducible refine Kd.C_drewN ?_ _) | (with_reducible refine Kd.C_drew ?_)))
              (case side2 => exact (Kd.R_reads' HO442.out).2.1)
              rintro e w106 ⟨rfl, hb⟩
              refine ⟨_, rfl, ?_⟩
              have n0_ := Aside0.mk (Kd.R_below (by (with_reducible repeat (first | apply Kd.R_alloc | apply Kd.R_drewN | apply Kd.R_drew)); exact HO442.out) hb)
              have n1_ := Aside0.mk (Kd.R_below (by (with_reducible repeat (first | apply Kd.R_alloc | apply Kd.R_drewN | apply Kd.R_drew)); exact HO447.out) hb)
              have n2_ := Aside0.mk (Kd.R_below (by (with_reducible repeat (first | apply Kd.R_alloc | apply Kd.R_drewN | apply Kd.R_drew)); exact HO453.out) hb)
              have n3_ := Aside0.mk (Kd.R_below (by (with_reducible repeat (first | apply Kd.R_alloc | apply Kd.R_drewN | apply Kd.R_drew)); exact HO459.out) hb)
              have n4_ := Aside0.mk (Kd.R_below (by (with_reducible repeat (first | apply Kd.R_alloc | apply Kd.R_drewN | apply Kd.R_drew)); exact HO465.out) hb)
              have n5_ := Aside0.mk (Kd.R_below (by (with_reducible repeat (first | apply Kd.R_alloc | apply Kd.R_drewN | apply Kd.R_drew)); exact HO471.out) hb)
              have n6_ := Aside0.mk (Kd.R_below (by (with_reducible repeat (first | apply Kd.R_alloc | apply Kd.R_drewN | apply Kd.R_drew)); exact HO478.out) hb)
              have n7_ := Aside0.mk (blk_below (g := gb438) (o := .cells #[.slice A0_0 l0_0.length c0_0, .int .i64 a0_1] 39 (0, 0)) (by (with_reducible repeat (first | refine blk_drewN ?_ _ | refine blk_drew ?_ | refine blk_alloc ?_ _)); exact BK438.out) hb)
              have n8_ := Aside0.mk (blk_below (g := gb444) (o := .cells #[.slice Ao45 t440.length co45, .int .i64 t443] 26 (0, 0)) (by (with_reducible repeat (first | refine blk_drewN ?_ _ | refine blk_drew ?_ | refine blk_alloc ?_ _)); exact BK444.out) hb)
              have n9_ := Aside0.mk (blk_below (g := gb450) (o := .cells #[.slice Ao50 t445.length co50, .int .i64 t448] 26 (0, 0)) (by (with_reducible repeat (first | refine blk_drewN ?_ _ | refine blk_drew ?_ | refine blk_alloc ?_ _)); exact BK450.out) hb)
              have n10_ := Aside0.mk (blk_below (g := gb456) (o := .cells #[.slice Ao57 t451.length co57, .int .i64 t454] 39 (0, 0)) (by (with_reducible repeat (first | refine blk_drewN ?_ _ | refine blk_drew ?_ | refine blk_alloc ?_ _)); exact BK456.out) hb)
              have n11_ := Aside0.mk (blk_below (g := gb462) (o := .cells #[.slice Ao65 t457.length co65, .int .i64 t460] 26 (0, 0)) (by (with_reducible repeat (first | refine blk_drewN ?_ _ | refine blk_drew ?_ | refine blk_alloc ?_ _)); exact BK462.out) hb)
              have n12_ := Aside0.mk (blk_below (g := gb468) (o := .cells #[.slice Ao74 t463.length co74, .int .i64 t466] 39 (0, 0)) (by (with_reducible repeat (first | refine blk_drewN ?_ _ | refine blk_drew ?_ | refine blk_alloc ?_ _)); exact BK468.out) hb)
              have n13_ := Aside0.mk (blk_below (g := gb475) (o := .cells #[.slice Ao84 t469.length co84, .int .i64 t472] 26 (0, 0)) (by (with_reducible repeat (first | refine blk_drewN ?_ _ | refine blk_drew ?_ | refine blk_alloc ?_ _)); exact BK475.out) hb)
              have n14_ := Aside0.mk (blk_below (g := gb482) (o := .cells #[.slice Ao95 t476.length co95, .int .i64 t479] 39 (0, 0)) (by (with_reducible repeat (first | refine blk_drewN ?_ _ | refine blk_drew ?_ | refine blk_alloc ?_ _)); exact BK482.out) hb)
              have n15_ := Aside0.mk (below_step (by repeat (first | (with_reducible first | exact HB.out | apply below_alloc | apply pw_below_drewN | apply below_drew1 | refine below_set ?_ GE438.out | refine below_set ?_ GE444.out | refine below_set ?_ GE450.out | refine below_set ?_ GE456.out | refine below_set ?_ GE462.out | refine below_set ?_ GE468.out | refine below_set ?_ GE475.out | refine below_set ?_ GE482.out) | exact HB.out)) hb)
              clear HO442
              clear HO447
              clear HO453
              clear HO459
              clear HO465
              clear HO471
              clear HO478
              clear BK438
              clear BK444
              clear BK450
              clear BK456
              clear BK462
              clear BK468
              clear BK475
              clear BK482
              clear HB
              have HO442 := n0_
              have HO447 := n1_
              have HO453 := n2_
              have HO459 := n3_
              have HO465 := n4_
              have HO471 := n5_
              have HO478 := n6_
              have BK438 := n7_
              have BK444 := n8_
              have BK450 := n9_
              have BK456 := n10_
              have BK462 := n11_
              have BK468 := n12_
              have BK475 := n13_
              have BK482 := n14_
              have HB := n15_
              clear n0_ n1_ n2_ n3_ n4_ n5_ n6_ n7_ n8_ n9_ n10_ n11_ n12_ n13_ n14_ n15_
              (try clear hb)
              (try clear hb2)
              (try clear hk)
              (try clear hi)
              refine hK.out _ _ ⟨(blk_cell BK444.out 0).trans rfl, (blk_cell BK444.out 1).trans rfl, (blk_cell BK438.out 0).trans rfl, (blk_cell BK438.out 1).trans rfl, (blk_cell BK450.out 0).trans rfl, (blk_cell BK450.out 1).trans rfl, (blk_cell BK456.out 0).trans rfl, (blk_cell BK456.out 1).trans rfl, (blk_cell BK462.out 0).trans rfl, (blk_cell BK462.out 1).trans rfl, (blk_cell BK468.out 0).trans rfl, (blk_cell BK468.out 1).trans rfl, (blk_cell BK475.out 0).trans rfl, (blk_cell BK475.out 1).trans rfl, (blk_cell BK482.out 0).trans rfl, (blk_cell BK482.out 1).trans rfl⟩ (fun hHeld => ?_)
              clear hK K
              refine norm_ (a' := ?_) ?_ ?_
              rotate_left
              ·show Act.put _ (some 81) _ = _
               simp only [Act.put, List.setIfInBounds_toArray, List.set_cons_zero, List.set_cons_succ, i64_w, i32_w]
               rfl
              refine one_ (i := 5) (N := some 83) #[true, true, true, true, true, true, false, false, false, false, false, false, false, false, false, false, false, false, false, false, false, false, false, false, false, false, false, false, false, false, false, false, false, false, false, false, false, false, false, false, false, false, false, false, false, false, false, false, false, false, false, false, false, false, false, false, false, false, false, false] rfl rfl (one_of HT_.out (by kernel_rfl)) (by decide) (fun K hK => ?_)
              refine goes_ Try.func13 (by kernel_rfl) rfl #[.agg #[.slice A0_0 l0_0.length c0_0, .int .i64 a0_1]] (by rfl) rfl rfl (by (try simp only [List.map_toArray, List.map_cons, List.map_nil]); first | done | rfl | (simp only [List.length_drop, List.length_take]; rfl)) ?_
              with_reducible refine (heronryref21_Sane.calls kj5 _ _ l0_0 a0_1 t484 _ ?side1 ?side2 A22.out).mono ?_
              (case side1 => repeat (first | exact (Kd.C_below HR0_0.out HB.out) | (with_reducible refine Kd.C_alloc ?_ _) | (with_reducible refine Kd.C_drewN ?_ _) | (with_reducible refine Kd.C_drew ?_)))
              (case side2 => exact HC0_0.out)
              rintro e w107 ⟨rfl, hb⟩
              refine ⟨_, rfl, ?_⟩
              have n0_ := Aside0.mk (Kd.R_below (by (with_reducible repeat (first | apply Kd.R_alloc | apply Kd.R_drewN | apply Kd.R_drew)); exact HO442.out) hb)
              have n1_ := Aside0.mk (Kd.R_below (by (with_reducible repeat (first | apply Kd.R_alloc | apply Kd.R_drewN | apply Kd.R_drew)); exact HO447.out) hb)
              have n2_ := Aside0.mk (Kd.R_below (by (with_reducible repeat (first | apply Kd.R_alloc | apply Kd.R_drewN | apply Kd.R_drew)); exact HO453.out) hb)
              have n3_ := Aside0.mk (Kd.R_below (by (with_reducible repeat (first | apply Kd.R_alloc | apply Kd.R_drewN | apply Kd.R_drew)); exact HO459.out) hb)
              have n4_ := Aside0.mk (Kd.R_below (by (with_reducible repeat (first | apply Kd.R_alloc | apply Kd.R_drewN | apply Kd.R_drew)); exact HO465.out) hb)
              have n5_ := Aside0.mk (Kd.R_below (by (with_reducible repeat (first | apply Kd.R_alloc | apply Kd.R_drewN | apply Kd.R_drew)); exact HO471.out) hb)
              have n6_ := Aside0.mk (Kd.R_below (by (with_reducible repeat (first | apply Kd.R_alloc | apply Kd.R_drewN | apply Kd.R_drew)); exact HO478.out) hb)
              have n7_ := Aside0.mk (blk_below (g := gb438) (o := .cells #[.slice A0_0 l0_0.length c0_0, .int .i64 a0_1] 39 (0, 0)) (by (with_reducible repeat (first | refine blk_drewN ?_ _ | refine blk_drew ?_ | refine blk_alloc ?_ _)); exact BK438.out) hb)
              have n8_ := Aside0.mk (blk_below (g := gb444) (o := .cells #[.slice Ao45 t440.length co45, .int .i64 t443] 26 (0, 0)) (by (with_reducible repeat (first | refine blk_drewN ?_ _ | refine blk_drew ?_ | refine blk_alloc ?_ _)); exact BK444.out) hb)
              have n9_ := Aside0.mk (blk_below (g := gb450) (o := .cells #[.slice Ao50 t445.length co50, .int .i64 t448] 26 (0, 0)) (by (with_reducible repeat (first | refine blk_drewN ?_ _ | refine blk_drew ?_ | refine blk_alloc ?_ _)); exact BK450.out) hb)
              have n10_ := Aside0.mk (blk_below (g := gb456) (o := .cells #[.slice Ao57 t451.length co57, .int .i64 t454] 39 (0, 0)) (by (with_reducible repeat (first | refine blk_drewN ?_ _ | refine blk_drew ?_ | refine blk_alloc ?_ _)); exact BK456.out) hb)
              have n11_ := Aside0.mk (blk_below (g := gb462) (o := .cells #[.slice Ao65 t457.length co65, .int .i64 t460] 26 (0, 0)) (by (with_reducible repeat (first | refine blk_drewN ?_ _ | refine blk_drew ?_ | refine blk_alloc ?_ _)); exact BK462.out) hb)
              have n12_ := Aside0.mk (blk_below (g := gb468) (o := .cells #[.slice Ao74 t463.length co74, .int .i64 t466] 39 (0, 0)) (by (with_reducible repeat (first | refine blk_drewN ?_ _ | refine blk_drew ?_ | refine blk_alloc ?_ _)); exact BK468.out) hb)
              have n13_ := Aside0.mk (blk_below (g := gb475) (o := .cells #[.slice Ao84 t469.length co84, .int .i64 t472] 26 (0, 0)) (by (with_reducible repeat (first | refine blk_drewN ?_ _ | refine blk_drew ?_ | refine blk_alloc ?_ _)); exact BK475.out) hb)
              have n14_ := Aside0.mk (blk_below (g := gb482) (o := .cells #[.slice Ao95 t476.length co95, .int .i64 t479] 39 (0, 0)) (by (with_reducible repeat (first | refine blk_drewN ?_ _ | refine blk_drew ?_ | refine blk_alloc ?_ _)); exact BK482.out) hb)
              have n15_ := Aside0.mk (below_step (by repeat (first | (with_reducible first | exact HB.out | apply below_alloc | apply pw_below_drewN | apply below_drew1 | refine below_set ?_ GE438.out | refine below_set ?_ GE444.out | refine below_set ?_ GE450.out | refine below_set ?_ GE456.out | refine below_set ?_ GE462.out | refine below_set ?_ GE468.out | refine below_set ?_ GE475.out | refine below_set ?_ GE482.out) | exact HB.out)) hb)
              clear HO442
              clear HO447
              clear HO453
              clear HO459
              clear HO465
              clear HO471
              clear HO478
              clear BK438
              clear BK444
              clear BK450
              clear BK456
              clear BK462
              clear BK468
              clear BK475
              clear BK482
              clear HB
              have HO442 := n0_
              have HO447 := n1_
              have HO453 := n2_
              have HO459 := n3_
              have HO465 := n4_
              have HO471 := n5_
              have HO478 := n6_
              have BK438 := n7_
              have BK444 := n8_
              have BK450 := n9_
              have BK456 := n10_
              have BK462 := n11_
              have BK468 := n12_
              have BK475 := n13_
              have BK482 := n14_
              have HB := n15_
              clear n0_ n1_ n2_ n3_ n4_ n5_ n6_ n7_ n8_ n9_ n10_ n11_ n12_ n13_ n14_ n15_
              (try clear hb)
              (try clear hb2)
              (try clear hk)
              (try clear hi)
              refine hK.out _ _ ⟨(blk_cell BK444.out 0).trans rfl, (blk_cell BK444.out 1).trans rfl, (blk_cell BK438.out 0).trans rfl, (blk_cell BK438.out 1).trans rfl, (blk_cell BK450.out 0).trans rfl, (blk_cell BK450.out 1).trans rfl, (blk_cell BK456.out 0).trans rfl, (blk_cell BK456.out 1).trans rfl, (blk_cell BK462.out 0).trans rfl, (blk_cell BK462.out 1).trans rfl, (blk_cell BK468.out 0).trans rfl, (blk_cell BK468.out 1).trans rfl, (blk_cell BK475.out 0).trans rfl, (blk_cell BK475.out 1).trans rfl, (blk_cell BK482.out 0).trans rfl, (blk_cell BK482.out 1).trans rfl⟩ (fun hHeld => ?_)
              clear hK K
              refine norm_ (a' := ?_) ?_ ?_
              rotate_left
              ·show Act.put _ (some 83) _ = _
               simp only [Act.put, List.setIfInBounds_toArray, List.set_cons_zero, List.set_cons_succ, i64_w, i32_w]
               rfl
              refine pure_ (i := 6) (N := some 84) (v := ?_) (a' := ?_) #[true, true, true, true, true, true, true, false, false, false, false, false, false, false, false, false, false, false, false, false, false, false, false, false, false, false, false, false, false, false, false, false, false, false, false, false, false, false, false, false, false, false, false, false, false, false, false, false, false, false, false, false, false, false, false, false, false, false, false, false] rfl rfl (any_of HT_.out (by kernel_rfl)) (fun _ _ _ h => h) (Or.inl ⟨by rfl, ?_⟩) ?_ ?_
              rotate_left
              ·intro w'
               go_simp
               with_reducible rfl
              rotate_left
              ·simp only [Act.put, List.setIfInBounds_toArray, List.set_cons_zero, List.set_cons_succ, i64_w, i32_w]
               rfl
              refine pure_ (i := 7) (N := some 85) (v := ?_) (a' := ?_) #[true, true, true, true, true, true, true, true, false, false, false, false, false, false, false, false, false, false, false, false, false, false, false, false, false, false, false, false, false, false, false, false, false, false, false, false, false, false, false, false, false, false, false, false, false, false, false, false, false, false, false, false, false, false, false, false, false, false, false, false] rfl rfl (any_of HT_.out (by kernel_rfl)) (fun _ _ _ h => h) (Or.inl ⟨by rfl, ?_⟩) ?_ ?_
              rotate_left
              ·intro w'
               go_simp
               with_reducible rfl
              rotate_left
              ·simp only [Act.put, List.setIfInBounds_toArray, List.set_cons_zero, List.set_cons_succ, i64_w, i32_w]
               rfl
              refine pure_ (i := 8) (N := some 86) (v := ?_) (a' := ?_) #[true, true, true, true, true, true, true, true, true, false, false, false, false, false, false, false, false, false, false, false, false, false, false, false, false, false, false, false, false, false, false, false, false, false, false, false, false, false, false, false, false, false, false, false, false, false, false, false, false, false, false, false, false, false, false, false, false, false, false, false] rfl rfl (any_of HT_.out (by kernel_rfl)) (fun _ _ _ h => h) (Or.inl ⟨by rfl, ?_⟩) ?_ ?_
              rotate_left
              ·intro w'
               go_simp
               with_reducible rfl
              rotate_left
              ·simp only [Act.put, List.setIfInBounds_toArray, List.set_cons_zero, List.set_cons_succ, i64_w, i32_w]
               rfl
              refine take_ (i := 9) (N := some 87) (v := ?_) (a' := ?_) #[true, true, true, true, true, true, true, true, true, true, false, false, false, false, false, false, false, false, false, false, false, false, false, false, false, false, false, false, false, false, false, false, false, false, false, false, false, false, false, false, false, false, false, false, false, false, false, false, false, false, false, false, false, false, false, false, false, false, false, false] rfl rfl (take_ofW HT_.out HW_.out (by kernel_rfl)) (fun _ _ _ h => h) (Or.inl ⟨by rfl, ?_⟩) hHeld ?_ ?_
              rotate_left
              ·rintro w' ⟨s0, s1, s2, s3, s4, s5, s6, s7, s8, s9, s10, s11, s12, s13, s14, s15⟩
               go_simp
               with_reducible rfl
              rotate_left
              ·simp only [Act.put, List.setIfInBounds_toArray, List.set_cons_zero, List.set_cons_succ, i64_w, i32_w]
               rfl
              refine take_ (i := 11) (N := some 89) (v := ?_) (a' := ?_) #[true, true, true, true, true, true, true, true, true, true, false, true, false, false, false, false, false, false, false, false, false, false, false, false, false, false, false, false, false, false, false, false, false, false, false, false, false, false, false, false, false, false, false, false, false, false, false, false, false, false, false, false, false, false, false, false, false, false, false, false] rfl rfl (take_ofW HT_.out HW_.out (by kernel_rfl)) (fun _ _ _ h => h) (Or.inl ⟨by rfl, ?_⟩) hHeld ?_ ?_
              rotate_left
              ·rintro w' ⟨s0, s1, s2, s3, s4, s5, s6, s7, s8, s9, s10, s11, s12, s13, s14, s15⟩
               go_simp
               with_reducible rfl
              rotate_left
              ·simp only [Act.put, List.setIfInBounds_toArray, List.set_cons_zero, List.set_cons_succ, i64_w, i32_w]
               rfl
              refine one_ (i := 10) (N := some 88) #[true, true, true, true, true, true, true, true, true, true, true, true, false, false, false, false, false, false, false, false, false, false, false, false, false, false, false, false, false, false, false, false, false, false, false, false, false, false, false, false, false, false, false, false, false, false, false, false, false, false, false, false, false, false, false, false, false, false, false, false] rfl rfl (one_of HT_.out (by kernel_rfl)) (by decide) (fun K hK => ?_)
              refine goes_ Try.func24 (by kernel_rfl) rfl #[.agg #[.slice Ao50 t445.length co50, .int .i64 t448]] (by rfl) rfl rfl (by (try simp only [List.map_toArray, List.map_cons, List.map_nil]); first | done | rfl | (simp only [List.length_drop, List.length_take]; rfl)) ?_
              with_reducible refine (heronrylaw21_theirs.calls kj5 _ _ t445 t448 t485 t488 _ ?side1 ?side2 A24.out).mono ?_
              (case side1 => repeat (first | exact (Kd.R_reads' HO447.out).2.2 | (with_reducible refine Kd.C_alloc ?_ _) | (with_reducible refine Kd.C_drewN ?_ _) | (with_reducible refine Kd.C_drew ?_)))
              (case side2 => exact (Kd.R_reads' HO447.out).2.1)
              rintro e w108 ⟨v486, rfl, ho0, hb⟩
              refine ⟨_, rfl, ?_⟩
              have n0_ := Aside0.mk (Kd.R_below (by (with_reducible repeat (first | apply Kd.R_alloc | apply Kd.R_drewN | apply Kd.R_drew)); exact HO442.out) hb)
              have n1_ := Aside0.mk (Kd.R_below (by (with_reducible repeat (first | apply Kd.R_alloc | apply Kd.R_drewN | apply Kd.R_drew)); exact HO447.out) hb)
              have n2_ := Aside0.mk (Kd.R_elder' (by (with_reducible repeat (first | apply Kd.R_alloc | apply Kd.R_drewN | apply Kd.R_drew)); exact HO453.out) (Kd.R_base ho0) hb)
              have n3_ := Aside0.mk (Kd.R_below (by (with_reducible repeat (first | apply Kd.R_alloc | apply Kd.R_drewN | apply Kd.R_drew)); exact HO459.out) hb)
              have n4_ := Aside0.mk (Kd.R_elder' (by (with_reducible repeat (first | apply Kd.R_alloc | apply Kd.R_drewN | apply Kd.R_drew)); exact HO465.out) (Kd.R_base ho0) hb)
              have n5_ := Aside0.mk (Kd.R_below (by (with_reducible repeat (first | apply Kd.R_alloc | apply Kd.R_drewN | apply Kd.R_drew)); exact HO471.out) hb)
              have n6_ := Aside0.mk (Kd.R_elder' (by (with_reducible repeat (first | apply Kd.R_alloc | apply Kd.R_drewN | apply Kd.R_drew)); exact HO478.out) (Kd.R_base ho0) hb)
              have n7_ := Aside0.mk (Kd.R_lower (Kd.R_new' (Kd.R_new' (Kd.R_new' ho0 (Kd.R_lt (by (with_reducible repeat (first | apply Kd.R_alloc | apply Kd.R_drewN | apply Kd.R_drew)); exact HO453.out))) (Kd.R_lt (by (with_reducible repeat (first | apply Kd.R_alloc | apply Kd.R_drewN | apply Kd.R_drew)); exact HO465.out))) (Kd.R_lt (by (with_reducible repeat (first | apply Kd.R_alloc | apply Kd.R_drewN | apply Kd.R_drew)); exact HO478.out))) (below_size (by repeat (first | (with_reducible first | exact HB.out | apply below_alloc | apply pw_below_drewN | apply below_drew1 | refine below_set ?_ GE438.out | refine below_set ?_ GE444.out | refine below_set ?_ GE450.out | refine below_set ?_ GE456.out | refine below_set ?_ GE462.out | refine below_set ?_ GE468.out | refine below_set ?_ GE475.out | refine below_set ?_ GE482.out) | exact HB.out))))
              have n8_ := Aside0.mk (blk_below (g := gb438) (o := .cells #[.slice A0_0 l0_0.length c0_0, .int .i64 a0_1] 39 (0, 0)) (by (with_reducible repeat (first | refine blk_drewN ?_ _ | refine blk_drew ?_ | refine blk_alloc ?_ _)); exact BK438.out) hb)
              have n9_ := Aside0.mk (blk_below (g := gb444) (o := .cells #[.slice Ao45 t440.length co45, .int .i64 t443] 26 (0, 0)) (by (with_reducible repeat (first | refine blk_drewN ?_ _ | refine blk_drew ?_ | refine blk_alloc ?_ _)); exact BK444.out) hb)
              have n10_ := Aside0.mk (blk_below (g := gb450) (o := .cells #[.slice Ao50 t445.length co50, .int .i64 t448] 26 (0, 0)) (by (with_reducible repeat (first | refine blk_drewN ?_ _ | refine blk_drew ?_ | refine blk_alloc ?_ _)); exact BK450.out) hb)
              have n11_ := Aside0.mk (blk_below (g := gb456) (o := .cells #[.slice Ao57 t451.length co57, .int .i64 t454] 39 (0, 0)) (by (with_reducible repeat (first | refine blk_drewN ?_ _ | refine blk_drew ?_ | refine blk_alloc ?_ _)); exact BK456.out) hb)
              have n12_ := Aside0.mk (blk_below (g := gb462) (o := .cells #[.slice Ao65 t457.length co65, .int .i64 t460] 26 (0, 0)) (by (with_reducible repeat (first | refine blk_drewN ?_ _ | refine blk_drew ?_ | refine blk_alloc ?_ _)); exact BK462.out) hb)
              have n13_ := Aside0.mk (blk_below (g := gb468) (o := .cells #[.slice Ao74 t463.length co74, .int .i64 t466] 39 (0, 0)) (by (with_reducible repeat (first | refine blk_drewN ?_ _ | refine blk_drew ?_ | refine blk_alloc ?_ _)); exact BK468.out) hb)
              have n14_ := Aside0.mk (blk_below (g := gb475) (o := .cells #[.slice Ao84 t469.length co84, .int .i64 t472] 26 (0, 0)) (by (with_reducible repeat (first | refine blk_drewN ?_ _ | refine blk_drew ?_ | refine blk_alloc ?_ _)); exact BK475.out) hb)
              have n15_ := Aside0.mk (blk_below (g := gb482) (o := .cells #[.slice Ao95 t476.length co95, .int .i64 t479] 39 (0, 0)) (by (with_reducible repeat (first | refine blk_drewN ?_ _ | refine blk_drew ?_ | refine blk_alloc ?_ _)); exact BK482.out) hb)
              have n16_ := Aside0.mk (below_step (by repeat (first | (with_reducible first | exact HB.out | apply below_alloc | apply pw_below_drewN | apply below_drew1 | refine below_set ?_ GE438.out | refine below_set ?_ GE444.out | refine below_set ?_ GE450.out | refine below_set ?_ GE456.out | refine below_set ?_ GE462.out | refine below_set ?_ GE468.out | refine below_set ?_ GE475.out | refine below_set ?_ GE482.out) | exact HB.out)) hb)
              clear HO442
              clear HO447
              clear HO453
              clear HO459
              clear HO465
              clear HO471
              clear HO478
              clear BK438
              clear BK444
              clear BK450
              clear BK456
              clear BK462
              clear BK468
              clear BK475
              clear BK482
              clear HB
              have HO442 := n0_
              have HO447 := n1_
              have HO453 := n2_
              have HO459 := n3_
              have HO465 := n4_
              have HO471 := n5_
              have HO478 := n6_
              have HO487 := n7_
              have BK438 := n8_
              have BK444 := n9_
              have BK450 := n10_
              have BK456 := n11_
              have BK462 := n12_
              have BK468 := n13_
              have BK475 := n14_
              have BK482 := n15_
              have HB := n16_
              clear n0_ n1_ n2_ n3_ n4_ n5_ n6_ n7_ n8_ n9_ n10_ n11_ n12_ n13_ n14_ n15_ n16_
              (try clear hb)
              (try clear hb2)
              (try clear hk)
              (try clear hi)
              (try clear ho0)
              obtain ⟨Ao109, co109, eo109⟩ := Kd.R_slice HO487.out
              (first | subst eo109 | (injection eo109 with f1_ f2_ f3_; have f4_ := f1_.symm; have f5_ := f3_.symm; clear f1_ f2_ f3_; subst f4_; subst f5_))
              refine hK.out _ _ ⟨(blk_cell BK444.out 0).trans rfl, (blk_cell BK444.out 1).trans rfl, (blk_cell BK438.out 0).trans rfl, (blk_cell BK438.out 1).trans rfl, (blk_cell BK450.out 0).trans rfl, (blk_cell BK450.out 1).trans rfl, (blk_cell BK456.out 0).trans rfl, (blk_cell BK456.out 1).trans rfl, (blk_cell BK462.out 0).trans rfl, (blk_cell BK462.out 1).trans rfl, (blk_cell BK468.out 0).trans rfl, (blk_cell BK468.out 1).trans rfl, (blk_cell BK475.out 0).trans rfl, (blk_cell BK475.out 1).trans rfl, (blk_cell BK482.out 0).trans rfl, (blk_cell BK482.out 1).trans rfl⟩ (fun hHeld => ?_)
              clear hK K
              refine norm_ (a' := ?_) ?_ ?_
              rotate_left
              ·show Act.put _ (some 88) _ = _
               simp only [Act.put, List.setIfInBounds_toArray, List.set_cons_zero, List.set_cons_succ, i64_w, i32_w]
               rfl
              refine one_ (i := 12) (N := some 90) #[true, true, true, true, true, true, true, true, true, true, true, true, true, false, false, false, false, false, false, false, false, false, false, false, false, false, false, false, false, false, false, false, false, false, false, false, false, false, false, false, false, false, false, false, false, false, false, false, false, false, false, false, false, false, false, false, false, false, false, false] rfl rfl (one_of HT_.out (by kernel_rfl)) (by decide) (fun K hK => ?_)
              refine goes_ Try.func23 (by kernel_rfl) rfl #[.agg #[.slice Ao109 t485.length co109, .int .i64 t488], .agg #[.slice Ao57 t451.length co57, .int .i64 t454]] (by rfl) rfl rfl (by (try simp only [List.map_toArray, List.map_cons, List.map_nil]); first | done | rfl | (simp only [List.length_drop, List.length_take]; rfl)) ?_
              with_reducible refine (heronryref21_Same.calls kj5 _ _ t485 t488 _ _ t451 t454 true _ ?side1 ?side2 ?side3 ?side4 A25.out).mono ?_
              (case side1 => repeat (first | exact (Kd.R_reads' HO487.out).2.2 | (with_reducible refine Kd.C_alloc ?_ _) | (with_reducible refine Kd.C_drewN ?_ _) | (with_reducible refine Kd.C_drew ?_)))
              (case side2 => exact (Kd.R_reads' HO487.out).2.1)
              (case side3 => repeat (first | exact (Kd.R_reads' HO453.out).2.2 | (with_reducible refine Kd.C_alloc ?_ _) | (with_reducible refine Kd.C_drewN ?_ _) | (with_reducible refine Kd.C_drew ?_)))
              (case side4 => exact (Kd.R_reads' HO453.out).2.1)
              rintro e w110 ⟨rfl, hb⟩
              refine ⟨_, rfl, ?_⟩
              have n0_ := Aside0.mk (Kd.R_below (by (with_reducible repeat (first | apply Kd.R_alloc | apply Kd.R_drewN | apply Kd.R_drew)); exact HO442.out) hb)
              have n1_ := Aside0.mk (Kd.R_below (by (with_reducible repeat (first | apply Kd.R_alloc | apply Kd.R_drewN | apply Kd.R_drew)); exact HO447.out) hb)
              have n2_ := Aside0.mk (Kd.R_below (by (with_reducible repeat (first | apply Kd.R_alloc | apply Kd.R_drewN | apply Kd.R_drew)); exact HO453.out) hb)
              have n3_ := Aside0.mk (Kd.R_below (by (with_reducible repeat (first | apply Kd.R_alloc | apply Kd.R_drewN | apply Kd.R_drew)); exact HO459.out) hb)
              have n4_ := Aside0.mk (Kd.R_below (by (with_reducible repeat (first | apply Kd.R_alloc | apply Kd.R_drewN | apply Kd.R_drew)); exact HO465.out) hb)
              have n5_ := Aside0.mk (Kd.R_below (by (with_reducible repeat (first | apply Kd.R_alloc | apply Kd.R_drewN | apply Kd.R_drew)); exact HO471.out) hb)
              have n6_ := Aside0.mk (Kd.R_below (by (with_reducible repeat (first | apply Kd.R_alloc | apply Kd.R_drewN | apply Kd.R_drew)); exact HO478.out) hb)
              have n7_ := Aside0.mk (Kd.R_below (by (with_reducible repeat (first | apply Kd.R_alloc | apply Kd.R_drewN | apply Kd.R_drew)); exact HO487.out) hb)
              have n8_ := Aside0.mk (blk_below (g := gb438) (o := .cells #[.slice A0_0 l0_0.length c0_0, .int .i64 a0_1] 39 (0, 0)) (by (with_reducible repeat (first | refine blk_drewN ?_ _ | refine blk_drew ?_ | refine blk_alloc ?_ _)); exact BK438.out) hb)
              have n9_ := Aside0.mk (blk_below (g := gb444) (o := .cells #[.slice Ao45 t440.length co45, .int .i64 t443] 26 (0, 0)) (by (with_reducible repeat (first | refine blk_drewN ?_ _ | refine blk_drew ?_ | refine blk_alloc ?_ _)); exact BK444.out) hb)
              have n10_ := Aside0.mk (blk_below (g := gb450) (o := .cells #[.slice Ao50 t445.length co50, .int .i64 t448] 26 (0, 0)) (by (with_reducible repeat (first | refine blk_drewN ?_ _ | refine blk_drew ?_ | refine blk_alloc ?_ _)); exact BK450.out) hb)
              have n11_ := Aside0.mk (blk_below (g := gb456) (o := .cells #[.slice Ao57 t451.length co57, .int .i64 t454] 39 (0, 0)) (by (with_reducible repeat (first | refine blk_drewN ?_ _ | refine blk_drew ?_ | refine blk_alloc ?_ _)); exact BK456.out) hb)
              have n12_ := Aside0.mk (blk_below (g := gb462) (o := .cells #[.slice Ao65 t457.length co65, .int .i64 t460] 26 (0, 0)) (by (with_reducible repeat (first | refine blk_drewN ?_ _ | refine blk_drew ?_ | refine blk_alloc ?_ _)); exact BK462.out) hb)
              have n13_ := Aside0.mk (blk_below (g := gb468) (o := .cells #[.slice Ao74 t463.length co74, .int .i64 t466] 39 (0, 0)) (by (with_reducible repeat (first | refine blk_drewN ?_ _ | refine blk_drew ?_ | refine blk_alloc ?_ _)); exact BK468.out) hb)
              have n14_ := Aside0.mk (blk_below (g := gb475) (o := .cells #[.slice Ao84 t469.length co84, .int .i64 t472] 26 (0, 0)) (by (with_reducible repeat (first | refine blk_drewN ?_ _ | refine blk_drew ?_ | refine blk_alloc ?_ _)); exact BK475.out) hb)
              have n15_ := Aside0.mk (blk_below (g := gb482) (o := .cells #[.slice Ao95 t476.length co95, .int .i64 t479] 39 (0, 0)) (by (with_reducible repeat (first | refine blk_drewN ?_ _ | refine blk_drew ?_ | refine blk_alloc ?_ _)); exact BK482.out) hb)
              have n16_ := Aside0.mk (below_step (by repeat (first | (with_reducible first | exact HB.out | apply below_alloc | apply pw_below_drewN | apply below_drew1 | refine below_set ?_ GE438.out | refine below_set ?_ GE444.out | refine below_set ?_ GE450.out | refine below_set ?_ GE456.out | refine below_set ?_ GE462.out | refine below_set ?_ GE468.out | refine below_set ?_ GE475.out | refine below_set ?_ GE482.out) | exact HB.out)) hb)
              clear HO442
              clear HO447
              clear HO453
              clear HO459
              clear HO465
              clear HO471
              clear HO478
              clear HO487
              clear BK438
              clear BK444
              clear BK450
              clear BK456
              clear BK462
              clear BK468
              clear BK475
              clear BK482
              clear HB
              have HO442 := n0_
              have HO447 := n1_
              have HO453 := n2_
              have HO459 := n3_
              have HO465 := n4_
              have HO471 := n5_
              have HO478 := n6_
              have HO487 := n7_
              have BK438 := n8_
              have BK444 := n9_
              have BK450 := n10_
              have BK456 := n11_
              have BK462 := n12_
              have BK468 := n13_
              have BK475 := n14_
              have BK482 := n15_
              have HB := n16_
              clear n0_ n1_ n2_ n3_ n4_ n5_ n6_ n7_ n8_ n9_ n10_ n11_ n12_ n13_ n14_ n15_ n16_
              (try clear hb)
              (try clear hb2)
              (try clear hk)
              (try clear hi)
              refine hK.out _ _ ⟨(blk_cell BK444.out 0).trans rfl, (blk_cell BK444.out 1).trans rfl, (blk_cell BK438.out 0).trans rfl, (blk_cell BK438.out 1).trans rfl, (blk_cell BK450.out 0).trans rfl, (blk_cell BK450.out 1).trans rfl, (blk_cell BK456.out 0).trans rfl, (blk_cell BK456.out 1).trans rfl, (blk_cell BK462.out 0).trans rfl, (blk_cell BK462.out 1).trans rfl, (blk_cell BK468.out 0).trans rfl, (blk_cell BK468.out 1).trans rfl, (blk_cell BK475.out 0).trans rfl, (blk_cell BK475.out 1).trans rfl, (blk_cell BK482.out 0).trans rfl, (blk_cell BK482.out 1).trans rfl⟩ (fun hHeld => ?_)
              clear hK K
              refine norm_ (a' := ?_) ?_ ?_
              rotate_left
              ·show Act.put _ (some 90) _ = _
               simp only [Act.put, List.setIfInBounds_toArray, List.set_cons_zero, List.set_cons_succ, i64_w, i32_w]
               rfl
              refine pure_ (i := 13) (N := some 91) (v := ?_) (a' := ?_) #[true, true, true, true, true, true, true, true, true, true, true, true, true, true, false, false, false, false, false, false, false, false, false, false, false, false, false, false, false, false, false, false, false, false, false, false, false, false, false, false, false, false, false, false, false, false, false, false, false, false, false, false, false, false, false, false, false, false, false, false] rfl rfl (any_of HT_.out (by kernel_rfl)) (fun _ _ _ h => h) (Or.inl ⟨by rfl, ?_⟩) ?_ ?_
              rotate_left
              ·intro w'
               go_simp
               with_reducible rfl
              rotate_left
              ·simp only [Act.put, List.setIfInBounds_toArray, List.set_cons_zero, List.set_cons_succ, i64_w, i32_w]
               rfl
              refine pure_ (i := 14) (N := some 92) (v := ?_) (a' := ?_) #[true, true, true, true, true, true, true, true, true, true, true, true, true, true, true, false, false, false, false, false, false, false, false, false, false, false, false, false, false, false, false, false, false, false, false, false, false, false, false, false, false, false, false, false, false, false, false, false, false, false, false, false, false, false, false, false, false, false, false, false] rfl rfl (any_of HT_.out (by kernel_rfl)) (fun _ _ _ h => h) (Or.inl ⟨by rfl, ?_⟩) ?_ ?_
              rotate_left
              ·intro w'
               go_simp
               with_reducible rfl
              rotate_left
              ·simp only [Act.put, List.setIfInBounds_toArray, List.set_cons_zero, List.set_cons_succ, i64_w, i32_w]
               rfl
              refine pure_ (i := 15) (N := some 93) (v := ?_) (a' := ?_) #[true, true, true, true, true, true, true, true, true, true, true, true, true, true, true, true, false, false, false, false, false, false, false, false, false, false, false, false, false, false, false, false, false, false, false, false, false, false, false, false, false, false, false, false, false, false, false, false, false, false, false, false, false, false, false, false, false, false, false, false] rfl rfl (any_of HT_.out (by kernel_rfl)) (fun _ _ _ h => h) (Or.inl ⟨by rfl, ?_⟩) ?_ ?_
              rotate_left
              ·intro w'
               go_simp
               with_reducible rfl
              rotate_left
              ·simp only [Act.put, List.setIfInBounds_toArray, List.set_cons_zero, List.set_cons_succ, i64_w, i32_w]
               rfl
              refine pure_ (i := 16) (N := some 94) (v := ?_) (a' := ?_) #[true, true, true, true, true, true, true, true, true, true, true, true, true, true, true, true, true, false, false, false, false, false, false, false, false, false, false, false, false, false, false, false, false, false, false, false, false, false, false, false, false, false, false, false, false, false, false, false, false, false, false, false, false, false, false, false, false, false, false, false] rfl rfl (any_of HT_.out (by kernel_rfl)) (fun _ _ _ h => h) (Or.inl ⟨by rfl, ?_⟩) ?_ ?_
              rotate_left
              ·intro w'
               go_simp
               with_reducible rfl
              rotate_left
              ·simp only [Act.put, List.setIfInBounds_toArray, List.set_cons_zero, List.set_cons_succ, i64_w, i32_w]
               rfl
              refine pure_ (i := 17) (N := some 95) (v := ?_) (a' := ?_) #[true, true, true, true, true, true, true, true, true, true, true, true, true, true, true, true, true, true, false, false, false, false, false, false, false, false, false, false, false, false, false, false, false, false, false, false, false, false, false, false, false, false, false, false, false, false, false, false, false, false, false, false, false, false, false, false, false, false, false, false] rfl rfl (any_of HT_.out (by kernel_rfl)) (fun _ _ _ h => h) (Or.inl ⟨by rfl, ?_⟩) ?_ ?_
              rotate_left
              ·intro w'
               go_simp
               with_reducible rfl
              rotate_left
              ·simp only [Act.put, List.setIfInBounds_toArray, List.set_cons_zero, List.set_cons_succ, i64_w, i32_w]
               rfl
              refine pure_ (i := 18) (N := some 96) (v := ?_) (a' := ?_) #[true, true, true, true, true, true, true, true, true, true, true, true, true, true, true, true, true, true, true, false, false, false, false, false, false, false, false, false, false, false, false, false, false, false, false, false, false, false, false, false, false, false, false, false, false, false, false, false, false, false, false, false, false, false, false, false, false, false, false, false] rfl rfl (any_of HT_.out (by kernel_rfl)) (fun _ _ _ h => h) (Or.inl ⟨by rfl, ?_⟩) ?_ ?_
              rotate_left
              ·intro w'
               go_simp
               with_reducible rfl
              rotate_left
              ·simp only [Act.put, List.setIfInBounds_toArray, List.set_cons_zero, List.set_cons_succ, i64_w, i32_w]
               rfl
              refine pure_ (i := 19) (N := some 97) (v := ?_) (a' := ?_) #[true, true, true, true, true, true, true, true, true, true, true, true, true, true, true, true, true, true, true, true, false, false, false, false, false, false, false, false, false, false, false, false, false, false, false, false, false, false, false, false, false, false, false, false, false, false, false, false, false, false, false, false, false, false, false, false, false, false, false, false] rfl rfl (any_of HT_.out (by kernel_rfl)) (fun _ _ _ h => h) (Or.inl ⟨by rfl, ?_⟩) ?_ ?_
              rotate_left
              ·intro w'
               go_simp
               with_reducible rfl
              rotate_left
              ·simp only [Act.put, List.setIfInBounds_toArray, List.set_cons_zero, List.set_cons_succ, i64_w, i32_w]
               rfl
              refine take_ (i := 20) (N := some 98) (v := ?_) (a' := ?_) #[true, true, true, true, true, true, true, true, true, true, true, true, true, true, true, true, true, true, true, true, true, false, false, false, false, false, false, false, false, false, false, false, false, false, false, false, false, false, false, false, false, false, false, false, false, false, false, false, false, false, false, false, false, false, false, false, false, false, false, false] rfl rfl (take_ofW HT_.out HW_.out (by kernel_rfl)) (fun _ _ _ h => h) (Or.inl ⟨by rfl, ?_⟩) hHeld ?_ ?_
              rotate_left
              ·rintro w' ⟨s0, s1, s2, s3, s4, s5, s6, s7, s8, s9, s10, s11, s12, s13, s14, s15⟩
               go_simp
               with_reducible rfl
              rotate_left
              ·simp only [Act.put, List.setIfInBounds_toArray, List.set_cons_zero, List.set_cons_succ, i64_w, i32_w]
               rfl
              refine take_ (i := 22) (N := some 100) (v := ?_) (a' := ?_) #[true, true, true, true, true, true, true, true, true, true, true, true, true, true, true, true, true, true, true, true, true, false, true, false, false, false, false, false, false, false, false, false, false, false, false, false, false, false, false, false, false, false, false, false, false, false, false, false, false, false, false, false, false, false, false, false, false, false, false, false] rfl rfl (take_ofW HT_.out HW_.out (by kernel_rfl)) (fun _ _ _ h => h) (Or.inl ⟨by rfl, ?_⟩) hHeld ?_ ?_
              rotate_left
              ·rintro w' ⟨s0, s1, s2, s3, s4, s5, s6, s7, s8, s9, s10, s11, s12, s13, s14, s15⟩
               go_simp
               with_reducible rfl
              rotate_left
              ·simp only [Act.put, List.setIfInBounds_toArray, List.set_cons_zero, List.set_cons_succ, i64_w, i32_w]
               rfl
              refine one_ (i := 21) (N := some 99) #[true, true, true, true, true, true, true, true, true, true, true, true, true, true, true, true, true, true, true, true, true, true, true, false, false, false, false, false, false, false, false, false, false, false, false, false, false, false, false, false, false, false, false, false, false, false, false, false, false, false, false, false, false, false, false, false, false, false, false, false] rfl rfl (one_of HT_.out (by kernel_rfl)) (by decide) (fun K hK => ?_)
              refine goes_ Try.func24 (by kernel_rfl) rfl #[.agg #[.slice Ao65 t457.length co65, .int .i64 t460]] (by rfl) rfl rfl (by (try simp only [List.map_toArray, List.map_cons, List.map_nil]); first | done | rfl | (simp only [List.length_drop, List.length_take]; rfl)) ?_
              with_reducible refine (heronrylaw21_theirs.calls kj5 _ _ t457 t460 t490 t493 _ ?side1 ?side2 A28.out).mono ?_
              (case side1 => repeat (first | exact (Kd.R_reads' HO459.out).2.2 | (with_reducible refine Kd.C_alloc ?_ _) | (with_reducible refine Kd.C_drewN ?_ _) | (with_reducible refine Kd.C_drew ?_)))
              (case side2 => exact (Kd.R_reads' HO459.out).2.1)
              rintro e w111 ⟨v491, rfl, ho0, hb⟩
              refine ⟨_, rfl, ?_⟩
              have n0_ := Aside0.mk (Kd.R_below (by (with_reducible repeat (first | apply Kd.R_alloc | apply Kd.R_drewN | apply Kd.R_drew)); exact HO442.out) hb)
              have n1_ := Aside0.mk (Kd.R_below (by (with_reducible repeat (first | apply Kd.R_alloc | apply Kd.R_drewN | apply Kd.R_drew)); exact HO447.out) hb)
              have n2_ := Aside0.mk (Kd.R_elder' (by (with_reducible repeat (first | apply Kd.R_alloc | apply Kd.R_drewN | apply Kd.R_drew)); exact HO453.out) (Kd.R_base ho0) hb)
              have n3_ := Aside0.mk (Kd.R_below (by (with_reducible repeat (first | apply Kd.R_alloc | apply Kd.R_drewN | apply Kd.R_drew)); exact HO459.out) hb)
              have n4_ := Aside0.mk (Kd.R_elder' (by (with_reducible repeat (first | apply Kd.R_alloc | apply Kd.R_drewN | apply Kd.R_drew)); exact HO465.out) (Kd.R_base ho0) hb)
              have n5_ := Aside0.mk (Kd.R_below (by (with_reducible repeat (first | apply Kd.R_alloc | apply Kd.R_drewN | apply Kd.R_drew)); exact HO471.out) hb)
              have n6_ := Aside0.mk (Kd.R_elder' (by (with_reducible repeat (first | apply Kd.R_alloc | apply Kd.R_drewN | apply Kd.R_drew)); exact HO478.out) (Kd.R_base ho0) hb)
              have n7_ := Aside0.mk (Kd.R_elder' (by (with_reducible repeat (first | apply Kd.R_alloc | apply Kd.R_drewN | apply Kd.R_drew)); exact HO487.out) (Kd.R_base ho0) hb)
              have n8_ := Aside0.mk (Kd.R_lower (Kd.R_new' (Kd.R_new' (Kd.R_new' (Kd.R_new' ho0 (Kd.R_lt (by (with_reducible repeat (first | apply Kd.R_alloc | apply Kd.R_drewN | apply Kd.R_drew)); exact HO453.out))) (Kd.R_lt (by (with_reducible repeat (first | apply Kd.R_alloc | apply Kd.R_drewN | apply Kd.R_drew)); exact HO465.out))) (Kd.R_lt (by (with_reducible repeat (first | apply Kd.R_alloc | apply Kd.R_drewN | apply Kd.R_drew)); exact HO478.out))) (Kd.R_lt (by (with_reducible repeat (first | apply Kd.R_alloc | apply Kd.R_drewN | apply Kd.R_drew)); exact HO487.out))) (below_size (by repeat (first | (with_reducible first | exact HB.out | apply below_alloc | apply pw_below_drewN | apply below_drew1 | refine below_set ?_ GE438.out | refine below_set ?_ GE444.out | refine below_set ?_ GE450.out | refine below_set ?_ GE456.out | refine below_set ?_ GE462.out | refine below_set ?_ GE468.out | refine below_set ?_ GE475.out | refine below_set ?_ GE482.out) | exact HB.out))))
              have n9_ := Aside0.mk (blk_below (g := gb438) (o := .cells #[.slice A0_0 l0_0.length c0_0, .int .i64 a0_1] 39 (0, 0)) (by (with_reducible repeat (first | refine blk_drewN ?_ _ | refine blk_drew ?_ | refine blk_alloc ?_ _)); exact BK438.out) hb)
              have n10_ := Aside0.mk (blk_below (g := gb444) (o := .cells #[.slice Ao45 t440.length co45, .int .i64 t443] 26 (0, 0)) (by (with_reducible repeat (first | refine blk_drewN ?_ _ | refine blk_drew ?_ | refine blk_alloc ?_ _)); exact BK444.out) hb)
              have n11_ := Aside0.mk (blk_below (g := gb450) (o := .cells #[.slice Ao50 t445.length co50, .int .i64 t448] 26 (0, 0)) (by (with_reducible repeat (first | refine blk_drewN ?_ _ | refine blk_drew ?_ | refine blk_alloc ?_ _)); exact BK450.out) hb)
              have n12_ := Aside0.mk (blk_below (g := gb456) (o := .cells #[.slice Ao57 t451.length co57, .int .i64 t454] 39 (0, 0)) (by (with_reducible repeat (first | refine blk_drewN ?_ _ | refine blk_drew ?_ | refine blk_alloc ?_ _)); exact BK456.out) hb)
              have n13_ := Aside0.mk (blk_below (g := gb462) (o := .cells #[.slice Ao65 t457.length co65, .int .i64 t460] 26 (0, 0)) (by (with_reducible repeat (first | refine blk_drewN ?_ _ | refine blk_drew ?_ | refine blk_alloc ?_ _)); exact BK462.out) hb)
              have n14_ := Aside0.mk (blk_below (g := gb468) (o := .cells #[.slice Ao74 t463.length co74, .int .i64 t466] 39 (0, 0)) (by (with_reducible repeat (first | refine blk_drewN ?_ _ | refine blk_drew ?_ | refine blk_alloc ?_ _)); exact BK468.out) hb)
              have n15_ := Aside0.mk (blk_below (g := gb475) (o := .cells #[.slice Ao84 t469.length co84, .int .i64 t472] 26 (0, 0)) (by (with_reducible repeat (first | refine blk_drewN ?_ _ | refine blk_drew ?_ | refine blk_alloc ?_ _)); exact BK475.out) hb)
              have n16_ := Aside0.mk (blk_below (g := gb482) (o := .cells #[.slice Ao95 t476.length co95, .int .i64 t479] 39 (0, 0)) (by (with_reducible repeat (first | refine blk_drewN ?_ _ | refine blk_drew ?_ | refine blk_alloc ?_ _)); exact BK482.out) hb)
              have n17_ := Aside0.mk (below_step (by repeat (first | (with_reducible first | exact HB.out | apply below_alloc | apply pw_below_drewN | apply below_drew1 | refine below_set ?_ GE438.out | refine below_set ?_ GE444.out | refine below_set ?_ GE450.out | refine below_set ?_ GE456.out | refine below_set ?_ GE462.out | refine below_set ?_ GE468.out | refine below_set ?_ GE475.out | refine below_set ?_ GE482.out) | exact HB.out)) hb)
              clear HO442
              clear HO447
              clear HO453
              clear HO459
              clear HO465
              clear HO471
              clear HO478
              clear HO487
              clear BK438
              clear BK444
              clear BK450
              clear BK456
              clear BK462
              clear BK468
              clear BK475
              clear BK482
              clear HB
              have HO442 := n0_
              have HO447 := n1_
              have HO453 := n2_
              have HO459 := n3_
              have HO465 := n4_
              have HO471 := n5_
              have HO478 := n6_
              have HO487 := n7_
              have HO492 := n8_
              have BK438 := n9_
              have BK444 := n10_
              have BK450 := n11_
              have BK456 := n12_
              have BK462 := n13_
              have BK468 := n14_
              have BK475 := n15_
              have BK482 := n16_
              have HB := n17_
              clear n0_ n1_ n2_ n3_ n4_ n5_ n6_ n7_ n8_ n9_ n10_ n11_ n12_ n13_ n14_ n15_ n16_ n17_
              (try clear hb)
              (try clear hb2)
              (try clear hk)
              (try clear hi)
              (try clear ho0)
              obtain ⟨Ao112, co112, eo112⟩ := Kd.R_slice HO492.out
              (first | subst eo112 | (injection eo112 with f1_ f2_ f3_; have f4_ := f1_.symm; have f5_ := f3_.symm; clear f1_ f2_ f3_; subst f4_; subst f5_))
              refine hK.out _ _ ⟨(blk_cell BK444.out 0).trans rfl, (blk_cell BK444.out 1).trans rfl, (blk_cell BK438.out 0).trans rfl, (blk_cell BK438.out 1).trans rfl, (blk_cell BK450.out 0).trans rfl, (blk_cell BK450.out 1).trans rfl, (blk_cell BK456.out 0).trans rfl, (blk_cell BK456.out 1).trans rfl, (blk_cell BK462.out 0).trans rfl, (blk_cell BK462.out 1).trans rfl, (blk_cell BK468.out 0).trans rfl, (blk_cell BK468.out 1).trans rfl, (blk_cell BK475.out 0).trans rfl, (blk_cell BK475.out 1).trans rfl, (blk_cell BK482.out 0).trans rfl, (blk_cell BK482.out 1).trans rfl⟩ (fun hHeld => ?_)
              clear hK K
              refine norm_ (a' := ?_) ?_ ?_
              rotate_left
              ·show Act.put _ (some 99) _ = _
               simp only [Act.put, List.setIfInBounds_toArray, List.set_cons_zero, List.set_cons_succ, i64_w, i32_w]
               rfl
              refine one_ (i := 23) (N := some 101) #[true, true, true, true, true, true, true, true, true, true, true, true, true, true, true, true, true, true, true, true, true, true, true, true, false, false, false, false, false, false, false, false, false, false, false, false, false, false, false, false, false, false, false, false, false, false, false, false, false, false, false, false, false, false, false, false, false, false, false, false] rfl rfl (one_of HT_.out (by kernel_rfl)) (by decide) (fun K hK => ?_)
              refine goes_ Try.func23 (by kernel_rfl) rfl #[.agg #[.slice Ao112 t490.length co112, .int .i64 t493], .agg #[.slice Ao74 t463.length co74, .int .i64 t466]] (by rfl) rfl rfl (by (try simp only [List.map_toArray, List.map_cons, List.map_nil]); first | done | rfl | (simp only [List.length_drop, List.length_take]; rfl)) ?_
              with_reducible refine (heronryref21_Same.calls kj5 _ _ t490 t493 _ _ t463 t466 true _ ?side1 ?side2 ?side3 ?side4 A29.out).mono ?_
              (case side1 => repeat (first | exact (Kd.R_reads' HO492.out).2.2 | (with_reducible refine Kd.C_alloc ?_ _) | (with_reducible refine Kd.C_drewN ?_ _) | (with_reducible refine Kd.C_drew ?_)))
              (case side2 => exact (Kd.R_reads' HO492.out).2.1)
              (case side3 => repeat (first | exact (Kd.R_reads' HO465.out).2.2 | (with_reducible refine Kd.C_alloc ?_ _) | (with_reducible refine Kd.C_drewN ?_ _) | (with_reducible refine Kd.C_drew ?_)))
              (case side4 => exact (Kd.R_reads' HO465.out).2.1)
              rintro e w113 ⟨rfl, hb⟩
              refine ⟨_, rfl, ?_⟩
              have n0_ := Aside0.mk (Kd.R_below (by (with_reducible repeat (first | apply Kd.R_alloc | apply Kd.R_drewN | apply Kd.R_drew)); exact HO442.out) hb)
              have n1_ := Aside0.mk (Kd.R_below (by (with_reducible repeat (first | apply Kd.R_alloc | apply Kd.R_drewN | apply Kd.R_drew)); exact HO447.out) hb)
              have n2_ := Aside0.mk (Kd.R_below (by (with_reducible repeat (first | apply Kd.R_alloc | apply Kd.R_drewN | apply Kd.R_drew)); exact HO453.out) hb)
              have n3_ := Aside0.mk (Kd.R_below (by (with_reducible repeat (first | apply Kd.R_alloc | apply Kd.R_drewN | apply Kd.R_drew)); exact HO459.out) hb)
              have n4_ := Aside0.mk (Kd.R_below (by (with_reducible repeat (first | apply Kd.R_alloc | apply Kd.R_drewN | apply Kd.R_drew)); exact HO465.out) hb)
              have n5_ := Aside0.mk (Kd.R_below (by (with_reducible repeat (first | apply Kd.R_alloc | apply Kd.R_drewN | apply Kd.R_drew)); exact HO471.out) hb)
              have n6_ := Aside0.mk (Kd.R_below (by (with_reducible repeat (first | apply Kd.R_alloc | apply Kd.R_drewN | apply Kd.R_drew)); exact HO478.out) hb)
              have n7_ := Aside0.mk (Kd.R_below (by (with_reducible repeat (first | apply Kd.R_alloc | apply Kd.R_drewN | apply Kd.R_drew)); exact HO487.out) hb)
              have n8_ := Aside0.mk (Kd.R_below (by (with_reducible repeat (first | apply Kd.R_alloc | apply Kd.R_drewN | apply Kd.R_drew)); exact HO492.out) hb)
              have n9_ := Aside0.mk (blk_below (g := gb438) (o := .cells #[.slice A0_0 l0_0.length c0_0, .int .i64 a0_1] 39 (0, 0)) (by (with_reducible repeat (first | refine blk_drewN ?_ _ | refine blk_drew ?_ | refine blk_alloc ?_ _)); exact BK438.out) hb)
              have n10_ := Aside0.mk (blk_below (g := gb444) (o := .cells #[.slice Ao45 t440.length co45, .int .i64 t443] 26 (0, 0)) (by (with_reducible repeat (first | refine blk_drewN ?_ _ | refine blk_drew ?_ | refine blk_alloc ?_ _)); exact BK444.out) hb)
              have n11_ := Aside0.mk (blk_below (g := gb450) (o := .cells #[.slice Ao50 t445.length co50, .int .i64 t448] 26 (0, 0)) (by (with_reducible repeat (first | refine blk_drewN ?_ _ | refine blk_drew ?_ | refine blk_alloc ?_ _)); exact BK450.out) hb)
              have n12_ := Aside0.mk (blk_below (g := gb456) (o := .cells #[.slice Ao57 t451.length co57, .int .i64 t454] 39 (0, 0)) (by (with_reducible repeat (first | refine blk_drewN ?_ _ | refine blk_drew ?_ | refine blk_alloc ?_ _)); exact BK456.out) hb)
              have n13_ := Aside0.mk (blk_below (g := gb462) (o := .cells #[.slice Ao65 t457.length co65, .int .i64 t460] 26 (0, 0)) (by (with_reducible repeat (first | refine blk_drewN ?_ _ | refine blk_drew ?_ | refine blk_alloc ?_ _)); exact BK462.out) hb)
              have n14_ := Aside0.mk (blk_below (g := gb468) (o := .cells #[.slice Ao74 t463.length co74, .int .i64 t466] 39 (0, 0)) (by (with_reducible repeat (first | refine blk_drewN ?_ _ | refine blk_drew ?_ | refine blk_alloc ?_ _)); exact BK468.out) hb)
              have n15_ := Aside0.mk (blk_below (g := gb475) (o := .cells #[.slice Ao84 t469.length co84, .int .i64 t472] 26 (0, 0)) (by (with_reducible repeat (first | refine blk_drewN ?_ _ | refine blk_drew ?_ | refine blk_alloc ?_ _)); exact BK475.out) hb)
              have n16_ := Aside0.mk (blk_below (g := gb482) (o := .cells #[.slice Ao95 t476.length co95, .int .i64 t479] 39 (0, 0)) (by (with_reducible repeat (first | refine blk_drewN ?_ _ | refine blk_drew ?_ | refine blk_alloc ?_ _)); exact BK482.out) hb)
              have n17_ := Aside0.mk (below_step (by repeat (first | (with_reducible first | exact HB.out | apply below_alloc | apply pw_below_drewN | apply below_drew1 | refine below_set ?_ GE438.out | refine below_set ?_ GE444.out | refine below_set ?_ GE450.out | refine below_set ?_ GE456.out | refine below_set ?_ GE462.out | refine below_set ?_ GE468.out | refine below_set ?_ GE475.out | refine below_set ?_ GE482.out) | exact HB.out)) hb)
              clear HO442
              clear HO447
              clear HO453
              clear HO459
              clear HO465
              clear HO471
              clear HO478
              clear HO487
              clear HO492
              clear BK438
              clear BK444
              clear BK450
              clear BK456
              clear BK462
              clear BK468
              clear BK475
              clear BK482
              clear HB
              have HO442 := n0_
              have HO447 := n1_
              have HO453 := n2_
              have HO459 := n3_
              have HO465 := n4_
              have HO471 := n5_
              have HO478 := n6_
              have HO487 := n7_
              have HO492 := n8_
              have BK438 := n9_
              have BK444 := n10_
              have BK450 := n11_
              have BK456 := n12_
              have BK462 := n13_
              have BK468 := n14_
              have BK475 := n15_
              have BK482 := n16_
              have HB := n17_
              clear n0_ n1_ n2_ n3_ n4_ n5_ n6_ n7_ n8_ n9_ n10_ n11_ n12_ n13_ n14_ n15_ n16_ n17_
              (try clear hb)
              (try clear hb2)
              (try clear hk)
              (try clear hi)
              refine hK.out _ _ ⟨(blk_cell BK444.out 0).trans rfl, (blk_cell BK444.out 1).trans rfl, (blk_cell BK438.out 0).trans rfl, (blk_cell BK438.out 1).trans rfl, (blk_cell BK450.out 0).trans rfl, (blk_cell BK450.out 1).trans rfl, (blk_cell BK456.out 0).trans rfl, (blk_cell BK456.out 1).trans rfl, (blk_cell BK462.out 0).trans rfl, (blk_cell BK462.out 1).trans rfl, (blk_cell BK468.out 0).trans rfl, (blk_cell BK468.out 1).trans rfl, (blk_cell BK475.out 0).trans rfl, (blk_cell BK475.out 1).trans rfl, (blk_cell BK482.out 0).trans rfl, (blk_cell BK482.out 1).trans rfl⟩ (fun hHeld => ?_)
              clear hK K
              refine norm_ (a' := ?_) ?_ ?_
              rotate_left
              ·show Act.put _ (some 101) _ = _
               simp only [Act.put, List.setIfInBounds_toArray, List.set_cons_zero, List.set_cons_succ, i64_w, i32_w]
               rfl
              refine pure_ (i := 24) (N := some 102) (v := ?_) (a' := ?_) #[true, true, true, true, true, true, true, true, true, true, true, true, true, true, true, true, true, true, true, true, true, true, true, true, true, false, false, false, false, false, false, false, false, false, false, false, false, false, false, false, false, false, false, false, false, false, false, false, false, false, false, false, false, false, false, false, false, false, false, false] rfl rfl (any_of HT_.out (by kernel_rfl)) (fun _ _ _ h => h) (Or.inl ⟨by rfl, ?_⟩) ?_ ?_
              rotate_left
              ·intro w'
               go_simp
               with_reducible rfl
              rotate_left
              ·simp only [Act.put, List.setIfInBounds_toArray, List.set_cons_zero, List.set_cons_succ, i64_w, i32_w]
               rfl
              refine pure_ (i := 25) (N := some 103) (v := ?_) (a' := ?_) #[true, true, true, true, true, true, true, true, true, true, true, true, true, true, true, true, true, true, true, true, true, true, true, true, true, true, false, false, false, false, false, false, false, false, false, false, false, false, false, false, false, false, false, false, false, false, false, false, false, false, false, false, false, false, false, false, false, false, false, false] rfl rfl (any_of HT_.out (by kernel_rfl)) (fun _ _ _ h => h) (Or.inl ⟨by rfl, ?_⟩) ?_ ?_
              rotate_left
              ·intro w'
               go_simp
               with_reducible rfl
              rotate_left
              ·simp only [Act.put, List.setIfInBounds_toArray, List.set_cons_zero, List.set_cons_succ, i64_w, i32_w]
               rfl
              refine pure_ (i := 26) (N := some 104) (v := ?_) (a' := ?_) #[true, true, true, true, true, true, true, true, true, true, true, true, true, true, true, true, true, true, true, true, true, true, true, true, true, true, true, false, false, false, false, false, false, false, false, false, false, false, false, false, false, false, false, false, false, false, false, false, false, false, false, false, false, false, false, false, false, false, false, false] rfl rfl (any_of HT_.out (by kernel_rfl)) (fun _ _ _ h => h) (Or.inl ⟨by rfl, ?_⟩) ?_ ?_
              rotate_left
              ·intro w'
               go_simp
               with_reducible rfl
              rotate_left
              ·simp only [Act.put, List.setIfInBounds_toArray, List.set_cons_zero, List.set_cons_succ, i64_w, i32_w]
               rfl
              refine pure_ (i := 27) (N := some 105) (v := ?_) (a' := ?_) #[true, true, true, true, true, true, true, true, true, true, true, true, true, true, true, true, true, true, true, true, true, true, true, true, true, true, true, true, false, false, false, false, false, false, false, false, false, false, false, false, false, false, false, false, false, false, false, false, false, false, false, false, false, false, false, false, false, false, false, false] rfl rfl (any_of HT_.out (by kernel_rfl)) (fun _ _ _ h => h) (Or.inl ⟨by rfl, ?_⟩) ?_ ?_
              rotate_left
              ·intro w'
               go_simp
               with_reducible rfl
              rotate_left
              ·simp only [Act.put, List.setIfInBounds_toArray, List.set_cons_zero, List.set_cons_succ, i64_w, i32_w]
               rfl
              refine pure_ (i := 28) (N := some 106) (v := ?_) (a' := ?_) #[true, true, true, true, true, true, true, true, true, true, true, true, true, true, true, true, true, true, true, true, true, true, true, true, true, true, true, true, true, false, false, false, false, false, false, false, false, false, false, false, false, false, false, false, false, false, false, false, false, false, false, false, false, false, false, false, false, false, false, false] rfl rfl (any_of HT_.out (by kernel_rfl)) (fun _ _ _ h => h) (Or.inl ⟨by rfl, ?_⟩) ?_ ?_
              rotate_left
              ·intro w'
               go_simp
               with_reducible rfl
              rotate_left
              ·simp only [Act.put, List.setIfInBounds_toArray, List.set_cons_zero, List.set_cons_succ, i64_w, i32_w]
               rfl
              refine pure_ (i := 29) (N := some 107) (v := ?_) (a' := ?_) #[true, true, true, true, true, true, true, true, true, true, true, true, true, true, true, true, true, true, true, true, true, true, true, true, true, true, true, true, true, true, false, false, false, false, false, false, false, false, false, false, false, false, false, false, false, false, false, false, false, false, false, false, false, false, false, false, false, false, false, false] rfl rfl (any_of HT_.out (by kernel_rfl)) (fun _ _ _ h => h) (Or.inl ⟨by rfl, ?_⟩) ?_ ?_
              rotate_left
              ·intro w'
               go_simp
               with_reducible rfl
              rotate_left
              ·simp only [Act.put, List.setIfInBounds_toArray, List.set_cons_zero, List.set_cons_succ, i64_w, i32_w]
               rfl
              refine pure_ (i := 30) (N := some 108) (v := ?_) (a' := ?_) #[true, true, true, true, true, true, true, true, true, true, true, true, true, true, true, true, true, true, true, true, true, true, true, true, true, true, true, true, true, true, true, false, false, false, false, false, false, false, false, false, false, false, false, false, false, false, false, false, false, false, false, false, false, false, false, false, false, false, false, false] rfl rfl (any_of HT_.out (by kernel_rfl)) (fun _ _ _ h => h) (Or.inl ⟨by rfl, ?_⟩) ?_ ?_
              rotate_left
              ·intro w'
               go_simp
               with_reducible rfl
              rotate_left
              ·simp only [Act.put, List.setIfInBounds_toArray, List.set_cons_zero, List.set_cons_succ, i64_w, i32_w]
               rfl
              refine take_ (i := 31) (N := some 109) (v := ?_) (a' := ?_) #[true, true, true, true, true, true, true, true, true, true, true, true, true, true, true, true, true, true, true, true, true, true, true, true, true, true, true, true, true, true, true, true, false, false, false, false, false, false, false, false, false, false, false, false, false, false, false, false, false, false, false, false, false, false, false, false, false, false, false, false] rfl rfl (take_ofW HT_.out HW_.out (by kernel_rfl)) (fun _ _ _ h => h) (Or.inl ⟨by rfl, ?_⟩) hHeld ?_ ?_
              rotate_left
              ·rintro w' ⟨s0, s1, s2, s3, s4, s5, s6, s7, s8, s9, s10, s11, s12, s13, s14, s15⟩
               go_simp
               with_reducible rfl
              rotate_left
              ·simp only [Act.put, List.setIfInBounds_toArray, List.set_cons_zero, List.set_cons_succ, i64_w, i32_w]
               rfl
              refine take_ (i := 33) (N := some 111) (v := ?_) (a' := ?_) #[true, true, true, true, true, true, true, true, true, true, true, true, true, true, true, true, true, true, true, true, true, true, true, true, true, true, true, true, true, true, true, true, false, true, false, false, false, false, false, false, false, false, false, false, false, false, false, false, false, false, false, false, false, false, false, false, false, false, false, false] rfl rfl (take_ofW HT_.out HW_.out (by kernel_rfl)) (fun _ _ _ h => h) (Or.inl ⟨by rfl, ?_⟩) hHeld ?_ ?_
              rotate_left
              ·rintro w' ⟨s0, s1, s2, s3, s4, s5, s6, s7, s8, s9, s10, s11, s12, s13, s14, s15⟩
               go_simp
               with_reducible rfl
              rotate_left
              ·simp only [Act.put, List.setIfInBounds_toArray, List.set_cons_zero, List.set_cons_succ, i64_w, i32_w]
               rfl
              refine one_ (i := 32) (N := some 110) #[true, true, true, true, true, true, true, true, true, true, true, true, true, true, true, true, true, true, true, true, true, true, true, true, true, true, true, true, true, true, true, true, true, true, false, false, false, false, false, false, false, false, false, false, false, false, false, false, false, false, false, false, false, false, false, false, false, false, false, false] rfl rfl (one_of HT_.out (by kernel_rfl)) (by decide) (fun K hK => ?_)
              refine goes_ Try.func24 (by kernel_rfl) rfl #[.agg #[.slice Ao84 t469.length co84, .int .i64 t472]] (by rfl) rfl rfl (by (try simp only [List.map_toArray, List.map_cons, List.map_nil]); first | done | rfl | (simp only [List.length_drop, List.length_take]; rfl)) ?_
              with_reducible refine (heronrylaw21_theirs.calls kj5 _ _ t469 t472 t495 t498 _ ?side1 ?side2 A32.out).mono ?_
              (case side1 => repeat (first | exact (Kd.R_reads' HO471.out).2.2 | (with_reducible refine Kd.C_alloc ?_ _) | (with_reducible refine Kd.C_drewN ?_ _) | (with_reducible refine Kd.C_drew ?_)))
              (case side2 => exact (Kd.R_reads' HO471.out).2.1)
              rintro e w114 ⟨v496, rfl, ho0, hb⟩
              refine ⟨_, rfl, ?_⟩
              have n0_ := Aside0.mk (Kd.R_below (by (with_reducible repeat (first | apply Kd.R_alloc | apply Kd.R_drewN | apply Kd.R_drew)); exact HO442.out) hb)
              have n1_ := Aside0.mk (Kd.R_below (by (with_reducible repeat (first | apply Kd.R_alloc | apply Kd.R_drewN | apply Kd.R_drew)); exact HO447.out) hb)
              have n2_ := Aside0.mk (Kd.R_elder' (by (with_reducible repeat (first | apply Kd.R_alloc | apply Kd.R_drewN | apply Kd.R_drew)); exact HO453.out) (Kd.R_base ho0) hb)
              have n3_ := Aside0.mk (Kd.R_below (by (with_reducible repeat (first | apply Kd.R_alloc | apply Kd.R_drewN | apply Kd.R_drew)); exact HO459.out) hb)
              have n4_ := Aside0.mk (Kd.R_elder' (by (with_reducible repeat (first | apply Kd.R_alloc | apply Kd.R_drewN | apply Kd.R_drew)); exact HO465.out) (Kd.R_base ho0) hb)
              have n5_ := Aside0.mk (Kd.R_below (by (with_reducible repeat (first | apply Kd.R_alloc | apply Kd.R_drewN | apply Kd.R_drew)); exact HO471.out) hb)
              have n6_ := Aside0.mk (Kd.R_elder' (by (with_reducible repeat (first | apply Kd.R_alloc | apply Kd.R_drewN | apply Kd.R_drew)); exact HO478.out) (Kd.R_base ho0) hb)
              have n7_ := Aside0.mk (Kd.R_elder' (by (with_reducible repeat (first | apply Kd.R_alloc | apply Kd.R_drewN | apply Kd.R_drew)); exact HO487.out) (Kd.R_base ho0) hb)
              have n8_ := Aside0.mk (Kd.R_elder' (by (with_reducible repeat (first | apply Kd.R_alloc | apply Kd.R_drewN | apply Kd.R_drew)); exact HO492.out) (Kd.R_base ho0) hb)
              have n9_ := Aside0.mk (Kd.R_lower (Kd.R_new' (Kd.R_new' (Kd.R_new' (Kd.R_new' (Kd.R_new' ho0 (Kd.R_lt (by (with_reducible repeat (first | apply Kd.R_alloc | apply Kd.R_drewN | apply Kd.R_drew)); exact HO453.out))) (Kd.R_lt (by (with_reducible repeat (first | apply Kd.R_alloc | apply Kd.R_drewN | apply Kd.R_drew)); exact HO465.out))) (Kd.R_lt (by (with_reducible repeat (first | apply Kd.R_alloc | apply Kd.R_drewN | apply Kd.R_drew)); exact HO478.out))) (Kd.R_lt (by (with_reducible repeat (first | apply Kd.R_alloc | apply Kd.R_drewN | apply Kd.R_drew)); exact HO487.out))) (Kd.R_lt (by (with_reducible repeat (first | apply Kd.R_alloc | apply Kd.R_drewN | apply Kd.R_drew)); exact HO492.out))) (below_size (by repeat (first | (with_reducible first | exact HB.out | apply below_alloc | apply pw_below_drewN | apply below_drew1 | refine below_set ?_ GE438.out | refine below_set ?_ GE444.out | refine below_set ?_ GE450.out | refine below_set ?_ GE456.out | refine below_set ?_ GE462.out | refine below_set ?_ GE468.out | refine below_set ?_ GE475.out | refine below_set ?_ GE482.out) | exact HB.out))))
              have n10_ := Aside0.mk (blk_below (g := gb438) (o := .cells #[.slice A0_0 l0_0.length c0_0, .int .i64 a0_1] 39 (0, 0)) (by (with_reducible repeat (first | refine blk_drewN ?_ _ | refine blk_drew ?_ | refine blk_alloc ?_ _)); exact BK438.out) hb)
              have n11_ := Aside0.mk (blk_below (g := gb444) (o := .cells #[.slice Ao45 t440.length co45, .int .i64 t443] 26 (0, 0)) (by (with_reducible repeat (first | refine blk_drewN ?_ _ | refine blk_drew ?_ | refine blk_alloc ?_ _)); exact BK444.out) hb)
              have n12_ := Aside0.mk (blk_below (g := gb450) (o := .cells #[.slice Ao50 t445.length co50, .int .i64 t448] 26 (0, 0)) (by (with_reducible repeat (first | refine blk_drewN ?_ _ | refine blk_drew ?_ | refine blk_alloc ?_ _)); exact BK450.out) hb)
              have n13_ := Aside0.mk (blk_below (g := gb456) (o := .cells #[.slice Ao57 t451.length co57, .int .i64 t454] 39 (0, 0)) (by (with_reducible repeat (first | refine blk_drewN ?_ _ | refine blk_drew ?_ | refine blk_alloc ?_ _)); exact BK456.out) hb)
              have n14_ := Aside0.mk (blk_below (g := gb462) (o := .cells #[.slice Ao65 t457.length co65, .int .i64 t460] 26 (0, 0)) (by (with_reducible repeat (first | refine blk_drewN ?_ _ | refine blk_drew ?_ | refine blk_alloc ?_ _)); exact BK462.out) hb)
              have n15_ := Aside0.mk (blk_below (g := gb468) (o := .cells #[.slice Ao74 t463.length co74, .int .i64 t466] 39 (0, 0)) (by (with_reducible repeat (first | refine blk_drewN ?_ _ | refine blk_drew ?_ | refine blk_alloc ?_ _)); exact BK468.out) hb)
              have n16_ := Aside0.mk (blk_below (g := gb475) (o := .cells #[.slice Ao84 t469.length co84, .int .i64 t472] 26 (0, 0)) (by (with_reducible repeat (first | refine blk_drewN ?_ _ | refine blk_drew ?_ | refine blk_alloc ?_ _)); exact BK475.out) hb)
              have n17_ := Aside0.mk (blk_below (g := gb482) (o := .cells #[.slice Ao95 t476.length co95, .int .i64 t479] 39 (0, 0)) (by (with_reducible repeat (first | refine blk_drewN ?_ _ | refine blk_drew ?_ | refine blk_alloc ?_ _)); exact BK482.out) hb)
              have n18_ := Aside0.mk (below_step (by repeat (first | (with_reducible first | exact HB.out | apply below_alloc | apply pw_below_drewN | apply below_drew1 | refine below_set ?_ GE438.out | refine below_set ?_ GE444.out | refine below_set ?_ GE450.out | refine below_set ?_ GE456.out | refine below_set ?_ GE462.out | refine below_set ?_ GE468.out | refine below_set ?_ GE475.out | refine below_set ?_ GE482.out) | exact HB.out)) hb)
              clear HO442
              clear HO447
              clear HO453
              clear HO459
              clear HO465
              clear HO471
              clear HO478
              clear HO487
              clear HO492
              clear BK438
              clear BK444
              clear BK450
              clear BK456
              clear BK462
              clear BK468
              clear BK475
              clear BK482
              clear HB
              have HO442 := n0_
              have HO447 := n1_
              have HO453 := n2_
              have HO459 := n3_
              have HO465 := n4_
              have HO471 := n5_
              have HO478 := n6_
              have HO487 := n7_
              have HO492 := n8_
              have HO497 := n9_
              have BK438 := n10_
              have BK444 := n11_
              have BK450 := n12_
              have BK456 := n13_
              have BK462 := n14_
              have BK468 := n15_
              have BK475 := n16_
              have BK482 := n17_
              have HB := n18_
              clear n0_ n1_ n2_ n3_ n4_ n5_ n6_ n7_ n8_ n9_ n10_ n11_ n12_ n13_ n14_ n15_ n16_ n17_ n18_
              (try clear hb)
              (try clear hb2)
              (try clear hk)
              (try clear hi)
              (try clear ho0)
              obtain ⟨Ao115, co115, eo115⟩ := Kd.R_slice HO497.out
              (first | subst eo115 | (injection eo115 with f1_ f2_ f3_; have f4_ := f1_.symm; have f5_ := f3_.symm; clear f1_ f2_ f3_; subst f4_; subst f5_))
              refine hK.out _ _ ⟨(blk_cell BK444.out 0).trans rfl, (blk_cell BK444.out 1).trans rfl, (blk_cell BK438.out 0).trans rfl, (blk_cell BK438.out 1).trans rfl, (blk_cell BK450.out 0).trans rfl, (blk_cell BK450.out 1).trans rfl, (blk_cell BK456.out 0).trans rfl, (blk_cell BK456.out 1).trans rfl, (blk_cell BK462.out 0).trans rfl, (blk_cell BK462.out 1).trans rfl, (blk_cell BK468.out 0).trans rfl, (blk_cell BK468.out 1).trans rfl, (blk_cell BK475.out 0).trans rfl, (blk_cell BK475.out 1).trans rfl, (blk_cell BK482.out 0).trans rfl, (blk_cell BK482.out 1).trans rfl⟩ (fun hHeld => ?_)
              clear hK K
              refine norm_ (a' := ?_) ?_ ?_
              rotate_left
              ·show Act.put _ (some 110) _ = _
               simp only [Act.put, List.setIfInBounds_toArray, List.set_cons_zero, List.set_cons_succ, i64_w, i32_w]
               rfl
              refine one_ (i := 34) (N := some 112) #[true, true, true, true, true, true, true, true, true, true, true, true, true, true, true, true, true, true, true, true, true, true, true, true, true, true, true, true, true, true, true, true, true, true, true, false, false, false, false, false, false, false, false, false, false, false, false, false, false, false, false, false, false, false, false, false, false, false, false, false] rfl rfl (one_of HT_.out (by kernel_rfl)) (by decide) (fun K hK => ?_)
              refine goes_ Try.func23 (by kernel_rfl) rfl #[.agg #[.slice Ao115 t495.length co115, .int .i64 t498], .agg #[.slice Ao95 t476.length co95, .int .i64 t479]] (by rfl) rfl rfl (by (try simp only [List.map_toArray, List.map_cons, List.map_nil]); first | done | rfl | (simp only [List.length_drop, List.length_take]; rfl)) ?_
              with_reducible refine (heronryref21_Same.calls kj5 _ _ t495 t498 _ _ t476 t479 true _ ?side1 ?side2 ?side3 ?side4 A33.out).mono ?_
              (case side1 => repeat (first | exact (Kd.R_reads' HO497.out).2.2 | (with_reducible refine Kd.C_alloc ?_ _) | (with_reducible refine Kd.C_drewN ?_ _) | (with_reducible refine Kd.C_drew ?_)))
              (case side2 => exact (Kd.R_reads' HO497.out).2.1)
              (case side3 => repeat (first | exact (Kd.R_reads' HO478.out).2.2 | (with_reducible refine Kd.C_alloc ?_ _) | (with_reducible refine Kd.C_drewN ?_ _) | (with_reducible refine Kd.C_drew ?_)))
              (case side4 => exact (Kd.R_reads' HO478.out).2.1)
              rintro e w116 ⟨rfl, hb⟩
              refine ⟨_, rfl, ?_⟩
              have n0_ := Aside0.mk (Kd.R_below (by (with_reducible repeat (first | apply Kd.R_alloc | apply Kd.R_drewN | apply Kd.R_drew)); exact HO442.out) hb)
              have n1_ := Aside0.mk (Kd.R_below (by (with_reducible repeat (first | apply Kd.R_alloc | apply Kd.R_drewN | apply Kd.R_drew)); exact HO447.out) hb)
              have n2_ := Aside0.mk (Kd.R_below (by (with_reducible repeat (first | apply Kd.R_alloc | apply Kd.R_drewN | apply Kd.R_drew)); exact HO453.out) hb)
              have n3_ := Aside0.mk (Kd.R_below (by (with_reducible repeat (first | apply Kd.R_alloc | apply Kd.R_drewN | apply Kd.R_drew)); exact HO459.out) hb)
              have n4_ := Aside0.mk (Kd.R_below (by (with_reducible repeat (first | apply Kd.R_alloc | apply Kd.R_drewN | apply Kd.R_drew)); exact HO465.out) hb)
              have n5_ := Aside0.mk (Kd.R_below (by (with_reducible repeat (first | apply Kd.R_alloc | apply Kd.R_drewN | apply Kd.R_drew)); exact HO471.out) hb)
              have n6_ := Aside0.mk (Kd.R_below (by (with_reducible repeat (first | apply Kd.R_alloc | apply Kd.R_drewN | apply Kd.R_drew)); exact HO478.out) hb)
              have n7_ := Aside0.mk (Kd.R_below (by (with_reducible repeat (first | apply Kd.R_alloc | apply Kd.R_drewN | apply Kd.R_drew)); exact HO487.out) hb)
              have n8_ := Aside0.mk (Kd.R_below (by (with_reducible repeat (first | apply Kd.R_alloc | apply Kd.R_drewN | apply Kd.R_drew)); exact HO492.out) hb)
              have n9_ := Aside0.mk (Kd.R_below (by (with_reducible repeat (first | apply Kd.R_alloc | apply Kd.R_drewN | apply Kd.R_drew)); exact HO497.out) hb)
              have n10_ := Aside0.mk (blk_below (g := gb438) (o := .cells #[.slice A0_0 l0_0.length c0_0, .int .i64 a0_1] 39 (0, 0)) (by (with_reducible repeat (first | refine blk_drewN ?_ _ | refine blk_drew ?_ | refine blk_alloc ?_ _)); exact BK438.out) hb)
              have n11_ := Aside0.mk (blk_below (g := gb444) (o := .cells #[.slice Ao45 t440.length co45, .int .i64 t443] 26 (0, 0)) (by (with_reducible repeat (first | refine blk_drewN ?_ _ | refine blk_drew ?_ | refine blk_alloc ?_ _)); exact BK444.out) hb)
              have n12_ := Aside0.mk (blk_below (g := gb450) (o := .cells #[.slice Ao50 t445.length co50, .int .i64 t448] 26 (0, 0)) (by (with_reducible repeat (first | refine blk_drewN ?_ _ | refine blk_drew ?_ | refine blk_alloc ?_ _)); exact BK450.out) hb)
              have n13_ := Aside0.mk (blk_below (g := gb456) (o := .cells #[.slice Ao57 t451.length co57, .int .i64 t454] 39 (0, 0)) (by (with_reducible repeat (first | refine blk_drewN ?_ _ | refine blk_drew ?_ | refine blk_alloc ?_ _)); exact BK456.out) hb)
              have n14_ := Aside0.mk (blk_below (g := gb462) (o := .cells #[.slice Ao65 t457.length co65, .int .i64 t460] 26 (0, 0)) (by (with_reducible repeat (first | refine blk_drewN ?_ _ | refine blk_drew ?_ | refine blk_alloc ?_ _)); exact BK462.out) hb)
              have n15_ := Aside0.mk (blk_below (g := gb468) (o := .cells #[.slice Ao74 t463.length co74, .int .i64 t466] 39 (0, 0)) (by (with_reducible repeat (first | refine blk_drewN ?_ _ | refine blk_drew ?_ | refine blk_alloc ?_ _)); exact BK468.out) hb)
              have n16_ := Aside0.mk (blk_below (g := gb475) (o := .cells #[.slice Ao84 t469.length co84, .int .i64 t472] 26 (0, 0)) (by (with_reducible repeat (first | refine blk_drewN ?_ _ | refine blk_drew ?_ | refine blk_alloc ?_ _)); exact BK475.out) hb)
              have n17_ := Aside0.mk (blk_below (g := gb482) (o := .cells #[.slice Ao95 t476.length co95, .int .i64 t479] 39 (0, 0)) (by (with_reducible repeat (first | refine blk_drewN ?_ _ | refine blk_drew ?_ | refine blk_alloc ?_ _)); exact BK482.out) hb)
              have n18_ := Aside0.mk (below_step (by repeat (first | (with_reducible first | exact HB.out | apply below_alloc | apply pw_below_drewN | apply below_drew1 | refine below_set ?_ GE438.out | refine below_set ?_ GE444.out | refine below_set ?_ GE450.out | refine below_set ?_ GE456.out | refine below_set ?_ GE462.out | refine below_set ?_ GE468.out | refine below_set ?_ GE475.out | refine below_set ?_ GE482.out) | exact HB.out)) hb)
              clear HO442
              clear HO447
              clear HO453
              clear HO459
              clear HO465
              clear HO471
              clear HO478
              clear HO487
              clear HO492
              clear HO497
              clear BK438
              clear BK444
              clear BK450
              clear BK456
              clear BK462
              clear BK468
              clear BK475
              clear BK482
              clear HB
              have HO442 := n0_
              have HO447 := n1_
              have HO453 := n2_
              have HO459 := n3_
              have HO465 := n4_
              have HO471 := n5_
              have HO478 := n6_
              have HO487 := n7_
              have HO492 := n8_
              have HO497 := n9_
              have BK438 := n10_
              have BK444 := n11_
              have BK450 := n12_
              have BK456 := n13_
              have BK462 := n14_
              have BK468 := n15_
              have BK475 := n16_
              have BK482 := n17_
              have HB := n18_
              clear n0_ n1_ n2_ n3_ n4_ n5_ n6_ n7_ n8_ n9_ n10_ n11_ n12_ n13_ n14_ n15_ n16_ n17_ n18_
              (try clear hb)
              (try clear hb2)
              (try clear hk)
              (try clear hi)
              refine hK.out _ _ ⟨(blk_cell BK444.out 0).trans rfl, (blk_cell BK444.out 1).trans rfl, (blk_cell BK438.out 0).trans rfl, (blk_cell BK438.out 1).trans rfl, (blk_cell BK450.out 0).trans rfl, (blk_cell BK450.out 1).trans rfl, (blk_cell BK456.out 0).trans rfl, (blk_cell BK456.out 1).trans rfl, (blk_cell BK462.out 0).trans rfl, (blk_cell BK462.out 1).trans rfl, (blk_cell BK468.out 0).trans rfl, (blk_cell BK468.out 1).trans rfl, (blk_cell BK475.out 0).trans rfl, (blk_cell BK475.out 1).trans rfl, (blk_cell BK482.out 0).trans rfl, (blk_cell BK482.out 1).trans rfl⟩ (fun hHeld => ?_)
              clear hK K
              refine norm_ (a' := ?_) ?_ ?_
              rotate_left
              ·show Act.put _ (some 112) _ = _
               simp only [Act.put, List.setIfInBounds_toArray, List.set_cons_zero, List.set_cons_succ, i64_w, i32_w]
               rfl
              refine pure_ (i := 35) (N := some 113) (v := ?_) (a' := ?_) #[true, true, true, true, true, true, true, true, true, true, true, true, true, true, true, true, true, true, true, true, true, true, true, true, true, true, true, true, true, true, true, true, true, true, true, true, false, false, false, false, false, false, false, false, false, false, false, false, false, false, false, false, false, false, false, false, false, false, false, false] rfl rfl (any_of HT_.out (by kernel_rfl)) (fun _ _ _ h => h) (Or.inl ⟨by rfl, ?_⟩) ?_ ?_
              rotate_left
              ·intro w'
               go_simp
               with_reducible rfl
              rotate_left
              ·simp only [Act.put, List.setIfInBounds_toArray, List.set_cons_zero, List.set_cons_succ, i64_w, i32_w]
               rfl
              refine pure_ (i := 36) (N := some 114) (v := ?_) (a' := ?_) #[true, true, true, true, true, true, true, true, true, true, true, true, true, true, true, true, true, true, true, true, true, true, true, true, true, true, true, true, true, true, true, true, true, true, true, true, true, false, false, false, false, false, false, false, false, false, false, false, false, false, false, false, false, false, false, false, false, false, false, false] rfl rfl (any_of HT_.out (by kernel_rfl)) (fun _ _ _ h => h) (Or.inl ⟨by rfl, ?_⟩) ?_ ?_
              rotate_left
              ·intro w'
               go_simp
               with_reducible rfl
              rotate_left
              ·simp only [Act.put, List.setIfInBounds_toArray, List.set_cons_zero, List.set_cons_succ, i64_w, i32_w]
               rfl
              refine pure_ (i := 37) (N := some 115) (v := ?_) (a' := ?_) #[true, true, true, true, true, true, true, true, true, true, true, true, true, true, true, true, true, true, true, true, true, true, true, true, true, true, true, true, true, true, true, true, true, true, true, true, true, true, false, false, false, false, false, false, false, false, false, false, false, false, false, false, false, false, false, false, false, false, false, false] rfl rfl (any_of HT_.out (by kernel_rfl)) (fun _ _ _ h => h) (Or.inl ⟨by rfl, ?_⟩) ?_ ?_
              rotate_left
              ·intro w'
               go_simp
               with_reducible rfl
              rotate_left
              ·simp only [Act.put, List.setIfInBounds_toArray, List.set_cons_zero, List.set_cons_succ, i64_w, i32_w]
               rfl
              refine pure_ (i := 38) (N := some 116) (v := ?_) (a' := ?_) #[true, true, true, true, true, true, true, true, true, true, true, true, true, true, true, true, true, true, true, true, true, true, true, true, true, true, true, true, true, true, true, true, true, true, true, true, true, true, true, false, false, false, false, false, false, false, false, false, false, false, false, false, false, false, false, false, false, false, false, false] rfl rfl (any_of HT_.out (by kernel_rfl)) (fun _ _ _ h => h) (Or.inl ⟨by rfl, ?_⟩) ?_ ?_
              rotate_left
              ·intro w'
               go_simp
               with_reducible rfl
              rotate_left
              ·simp only [Act.put, List.setIfInBounds_toArray, List.set_cons_zero, List.set_cons_succ, i64_w, i32_w]
               rfl
              refine pure_ (i := 39) (N := some 117) (v := ?_) (a' := ?_) #[true, true, true, true, true, true, true, true, true, true, true, true, true, true, true, true, true, true, true, true, true, true, true, true, true, true, true, true, true, true, true, true, true, true, true, true, true, true, true, true, false, false, false, false, false, false, false, false, false, false, false, false, false, false, false, false, false, false, false, false] rfl rfl (any_of HT_.out (by kernel_rfl)) (fun _ _ _ h => h) (Or.inl ⟨by rfl, ?_⟩) ?_ ?_
              rotate_left
              ·intro w'
               go_simp
               with_reducible rfl
              rotate_left
              ·simp only [Act.put, List.setIfInBounds_toArray, List.set_cons_zero, List.set_cons_succ, i64_w, i32_w]
               rfl
              refine pure_ (i := 40) (N := some 118) (v := ?_) (a' := ?_) #[true, true, true, true, true, true, true, true, true, true, true, true, true, true, true, true, true, true, true, true, true, true, true, true, true, true, true, true, true, true, true, true, true, true, true, true, true, true, true, true, true, false, false, false, false, false, false, false, false, false, false, false, false, false, false, false, false, false, false, false] rfl rfl (any_of HT_.out (by kernel_rfl)) (fun _ _ _ h => h) (Or.inl ⟨by rfl, ?_⟩) ?_ ?_
              rotate_left
              ·intro w'
               go_simp
               with_reducible rfl
              rotate_left
              ·simp only [Act.put, List.setIfInBounds_toArray, List.set_cons_zero, List.set_cons_succ, i64_w, i32_w]
               rfl
              refine pure_ (i := 41) (N := some 119) (v := ?_) (a' := ?_) #[true, true, true, true, true, true, true, true, true, true, true, true, true, true, true, true, true, true, true, true, true, true, true, true, true, true, true, true, true, true, true, true, true, true, true, true, true, true, true, true, true, true, false, false, false, false, false, false, false, false, false, false, false, false, false, false, false, false, false, false] rfl rfl (any_of HT_.out (by kernel_rfl)) (fun _ _ _ h => h) (Or.inl ⟨by rfl, ?_⟩) ?_ ?_
              rotate_left
              ·intro w'
               go_simp
               with_reducible rfl
              rotate_left
              ·simp only [Act.put, List.setIfInBounds_toArray, List.set_cons_zero, List.set_cons_succ, i64_w, i32_w]
               rfl
              refine pure_ (i := 42) (N := some 120) (v := ?_) (a' := ?_) #[true, true, true, true, true, true, true, true, true, true, true, true, true, true, true, true, true, true, true, true, true, true, true, true, true, true, true, true, true, true, true, true, true, true, true, true, true, true, true, true, true, true, true, false, false, false, false, false, false, false, false, false, false, false, false, false, false, false, false, false] rfl rfl (any_of HT_.out (by kernel_rfl)) (fun _ _ _ h => h) (Or.inl ⟨by rfl, ?_⟩) ?_ ?_
              rotate_left
              ·intro w'
               go_simp
               with_reducible rfl
              rotate_left
              ·simp only [Act.put, List.setIfInBounds_toArray, List.set_cons_zero, List.set_cons_succ, i64_w, i32_w]
               rfl
              refine pure_ (i := 43) (N := some 121) (v := ?_) (a' := ?_) #[true, true, true, true, true, true, true, true, true, true, true, true, true, true, true, true, true, true, true, true, true, true, true, true, true, true, true, true, true, true, true, true, true, true, true, true, true, true, true, true, true, true, true, true, false, false, false, false, false, false, false, false, false, false, false, false, false, false, false, false] rfl rfl (any_of HT_.out (by kernel_rfl)) (fun _ _ _ h => h) (Or.inl ⟨by rfl, ?_⟩) ?_ ?_
              rotate_left
              ·intro w'
               go_simp
               with_reducible rfl
              rotate_left
              ·simp only [Act.put, List.setIfInBounds_toArray, List.set_cons_zero, List.set_cons_succ, i64_w, i32_w]
               rfl
              refine pure_ (i := 44) (N := some 122) (v := ?_) (a' := ?_) #[true, true, true, true, true, true, true, true, true, true, true, true, true, true, true, true, true, true, true, true, true, true, true, true, true, true, true, true, true, true, true, true, true, true, true, true, true, true, true, true, true, true, true, true, true, false, false, false, false, false, false, false, false, false, false, false, false, false, false, false] rfl rfl (any_of HT_.out (by kernel_rfl)) (fun _ _ _ h => h) (Or.inl ⟨by rfl, ?_⟩) ?_ ?_
              rotate_left
              ·intro w'
               go_simp
               with_reducible rfl
              rotate_left
              ·simp only [Act.put, List.setIfInBounds_toArray, List.set_cons_zero, List.set_cons_succ, i64_w, i32_w]
               rfl
              refine pure_ (i := 45) (N := some 123) (v := ?_) (a' := ?_) #[true, true, true, true, true, true, true, true, true, true, true, true, true, true, true, true, true, true, true, true, true, true, true, true, true, true, true, true, true, true, true, true, true, true, true, true, true, true, true, true, true, true, true, true, true, true, false, false, false, false, false, false, false, false, false, false, false, false, false, false] rfl rfl (any_of HT_.out (by kernel_rfl)) (fun _ _ _ h => h) (Or.inl ⟨by rfl, ?_⟩) ?_ ?_
              rotate_left
              ·intro w'
               go_simp
               with_reducible rfl
              rotate_left
              ·simp only [Act.put, List.setIfInBounds_toArray, List.set_cons_zero, List.set_cons_succ, i64_w, i32_w]
               rfl
              refine pure_ (i := 46) (N := some 124) (v := ?_) (a' := ?_) #[true, true, true, true, true, true, true, true, true, true, true, true, true, true, true, true, true, true, true, true, true, true, true, true, true, true, true, true, true, true, true, true, true, true, true, true, true, true, true, true, true, true, true, true, true, true, true, false, false, false, false, false, false, false, false, false, false, false, false, false] rfl rfl (any_of HT_.out (by kernel_rfl)) (fun _ _ _ h => h) (Or.inl ⟨by rfl, ?_⟩) ?_ ?_
              rotate_left
              ·intro w'
               go_simp
               with_reducible rfl
              rotate_left
              ·simp only [Act.put, List.setIfInBounds_toArray, List.set_cons_zero, List.set_cons_succ, i64_w, i32_w]
               rfl
              refine take_ (i := 47) (N := some 125) (v := ?_) (a' := ?_) #[true, true, true, true, true, true, true, true, true, true, true, true, true, true, true, true, true, true, true, true, true, true, true, true, true, true, true, true, true, true, true, true, true, true, true, true, true, true, true, true, true, true, true, true, true, true, true, true, false, false, false, false, false, false, false, false, false, false, false, false] rfl rfl (take_ofW HT_.out HW_.out (by kernel_rfl)) (fun _ _ _ h => h) (Or.inl ⟨by rfl, ?_⟩) hHeld ?_ ?_
              rotate_left
              ·rintro w' ⟨s0, s1, s2, s3, s4, s5, s6, s7, s8, s9, s10, s11, s12, s13, s14, s15⟩
               go_simp
               with_reducible rfl
              rotate_left
              ·simp only [Act.put, List.setIfInBounds_toArray, List.set_cons_zero, List.set_cons_succ, i64_w, i32_w]
               rfl
              refine take_ (i := 49) (N := some 127) (v := ?_) (a' := ?_) #[true, true, true, true, true, true, true, true, true, true, true, true, true, true, true, true, true, true, true, true, true, true, true, true, true, true, true, true, true, true, true, true, true, true, true, true, true, true, true, true, true, true, true, true, true, true, true, true, false, true, false, false, false, false, false, false, false, false, false, false] rfl rfl (take_ofW HT_.out HW_.out (by kernel_rfl)) (fun _ _ _ h => h) (Or.inl ⟨by rfl, ?_⟩) hHeld ?_ ?_
              rotate_left
              ·rintro w' ⟨s0, s1, s2, s3, s4, s5, s6, s7, s8, s9, s10, s11, s12, s13, s14, s15⟩
               go_simp
               with_reducible rfl
              rotate_left
              ·simp only [Act.put, List.setIfInBounds_toArray, List.set_cons_zero, List.set_cons_succ, i64_w, i32_w]
               rfl
              refine one_ (i := 48) (N := some 126) #[true, true, true, true, true, true, true, true, true, true, true, true, true, true, true, true, true, true, true, true, true, true, true, true, true, true, true, true, true, true, true, true, true, true, true, true, true, true, true, true, true, true, true, true, true, true, true, true, true, true, false, false, false, false, false, false, false, false, false, false] rfl rfl (one_of HT_.out (by kernel_rfl)) (by decide) (fun K hK => ?_)
              refine goes_ Try.func17 (by kernel_rfl) rfl #[.agg #[.slice Ao45 t440.length co45, .int .i64 t443]] (by rfl) rfl rfl (by (try simp only [List.map_toArray, List.map_cons, List.map_nil]); first | done | rfl | (simp only [List.length_drop, List.length_take]; rfl)) ?_
              with_reducible refine (sched_Bound.calls kj5 _ _ t440 t443 t500 _ ?side1 ?side2 A37.out).mono ?_
              (case side1 => repeat (first | exact (Kd.R_reads' HO442.out).2.2 | (with_reducible refine Kd.C_alloc ?_ _) | (with_reducible refine Kd.C_drewN ?_ _) | (with_reducible refine Kd.C_drew ?_)))
              (case side2 => exact (Kd.R_reads' HO442.out).2.1)
              rintro e w117 ⟨rfl, hb⟩
              refine ⟨_, rfl, ?_⟩
              have n0_ := Aside0.mk (Kd.R_below (by (with_reducible repeat (first | apply Kd.R_alloc | apply Kd.R_drewN | apply Kd.R_drew)); exact HO442.out) hb)
              have n1_ := Aside0.mk (Kd.R_below (by (with_reducible repeat (first | apply Kd.R_alloc | apply Kd.R_drewN | apply Kd.R_drew)); exact HO447.out) hb)
              have n2_ := Aside0.mk (Kd.R_below (by (with_reducible repeat (first | apply Kd.R_alloc | apply Kd.R_drewN | apply Kd.R_drew)); exact HO453.out) hb)
              have n3_ := Aside0.mk (Kd.R_below (by (with_reducible repeat (first | apply Kd.R_alloc | apply Kd.R_drewN | apply Kd.R_drew)); exact HO459.out) hb)
              have n4_ := Aside0.mk (Kd.R_below (by (with_reducible repeat (first | apply Kd.R_alloc | apply Kd.R_drewN | apply Kd.R_drew)); exact HO465.out) hb)
              have n5_ := Aside0.mk (Kd.R_below (by (with_reducible repeat (first | apply Kd.R_alloc | apply Kd.R_drewN | apply Kd.R_drew)); exact HO471.out) hb)
              have n6_ := Aside0.mk (Kd.R_below (by (with_reducible repeat (first | apply Kd.R_alloc | apply Kd.R_drewN | apply Kd.R_drew)); exact HO478.out) hb)
              have n7_ := Aside0.mk (Kd.R_below (by (with_reducible repeat (first | apply Kd.R_alloc | apply Kd.R_drewN | apply Kd.R_drew)); exact HO487.out) hb)
              have n8_ := Aside0.mk (Kd.R_below (by (with_reducible repeat (first | apply Kd.R_alloc | apply Kd.R_drewN | apply Kd.R_drew)); exact HO492.out) hb)
              have n9_ := Aside0.mk (Kd.R_below (by (with_reducible repeat (first | apply Kd.R_alloc | apply Kd.R_drewN | apply Kd.R_drew)); exact HO497.out) hb)
              have n10_ := Aside0.mk (blk_below (g := gb438) (o := .cells #[.slice A0_0 l0_0.length c0_0, .int .i64 a0_1] 39 (0, 0)) (by (with_reducible repeat (first | refine blk_drewN ?_ _ | refine blk_drew ?_ | refine blk_alloc ?_ _)); exact BK438.out) hb)
              have n11_ := Aside0.mk (blk_below (g := gb444) (o := .cells #[.slice Ao45 t440.length co45, .int .i64 t443] 26 (0, 0)) (by (with_reducible repeat (first | refine blk_drewN ?_ _ | refine blk_drew ?_ | refine blk_alloc ?_ _)); exact BK444.out) hb)
              have n12_ := Aside0.mk (blk_below (g := gb450) (o := .cells #[.slice Ao50 t445.length co50, .int .i64 t448] 26 (0, 0)) (by (with_reducible repeat (first | refine blk_drewN ?_ _ | refine blk_drew ?_ | refine blk_alloc ?_ _)); exact BK450.out) hb)
              have n13_ := Aside0.mk (blk_below (g := gb456) (o := .cells #[.slice Ao57 t451.length co57, .int .i64 t454] 39 (0, 0)) (by (with_reducible repeat (first | refine blk_drewN ?_ _ | refine blk_drew ?_ | refine blk_alloc ?_ _)); exact BK456.out) hb)
              have n14_ := Aside0.mk (blk_below (g := gb462) (o := .cells #[.slice Ao65 t457.length co65, .int .i64 t460] 26 (0, 0)) (by (with_reducible repeat (first | refine blk_drewN ?_ _ | refine blk_drew ?_ | refine blk_alloc ?_ _)); exact BK462.out) hb)
              have n15_ := Aside0.mk (blk_below (g := gb468) (o := .cells #[.slice Ao74 t463.length co74, .int .i64 t466] 39 (0, 0)) (by (with_reducible repeat (first | refine blk_drewN ?_ _ | refine blk_drew ?_ | refine blk_alloc ?_ _)); exact BK468.out) hb)
              have n16_ := Aside0.mk (blk_below (g := gb475) (o := .cells #[.slice Ao84 t469.length co84, .int .i64 t472] 26 (0, 0)) (by (with_reducible repeat (first | refine blk_drewN ?_ _ | refine blk_drew ?_ | refine blk_alloc ?_ _)); exact BK475.out) hb)
              have n17_ := Aside0.mk (blk_below (g := gb482) (o := .cells #[.slice Ao95 t476.length co95, .int .i64 t479] 39 (0, 0)) (by (with_reducible repeat (first | refine blk_drewN ?_ _ | refine blk_drew ?_ | refine blk_alloc ?_ _)); exact BK482.out) hb)
              have n18_ := Aside0.mk (below_step (by repeat (first | (with_reducible first | exact HB.out | apply below_alloc | apply pw_below_drewN | apply below_drew1 | refine below_set ?_ GE438.out | refine below_set ?_ GE444.out | refine below_set ?_ GE450.out | refine below_set ?_ GE456.out | refine below_set ?_ GE462.out | refine below_set ?_ GE468.out | refine below_set ?_ GE475.out | refine below_set ?_ GE482.out) | exact HB.out)) hb)
              clear HO442
              clear HO447
              clear HO453
              clear HO459
              clear HO465
              clear HO471
              clear HO478
              clear HO487
              clear HO492
              clear HO497
              clear BK438
              clear BK444
              clear BK450
              clear BK456
              clear BK462
              clear BK468
              clear BK475
              clear BK482
              clear HB
              have HO442 := n0_
              have HO447 := n1_
              have HO453 := n2_
              have HO459 := n3_
              have HO465 := n4_
              have HO471 := n5_
              have HO478 := n6_
              have HO487 := n7_
              have HO492 := n8_
              have HO497 := n9_
              have BK438 := n10_
              have BK444 := n11_
              have BK450 := n12_
              have BK456 := n13_
              have BK462 := n14_
              have BK468 := n15_
              have BK475 := n16_
              have BK482 := n17_
              have HB := n18_
              clear n0_ n1_ n2_ n3_ n4_ n5_ n6_ n7_ n8_ n9_ n10_ n11_ n12_ n13_ n14_ n15_ n16_ n17_ n18_
              (try clear hb)
              (try clear hb2)
              (try clear hk)
              (try clear hi)
              refine hK.out _ _ ⟨(blk_cell BK444.out 0).trans rfl, (blk_cell BK444.out 1).trans rfl, (blk_cell BK438.out 0).trans rfl, (blk_cell BK438.out 1).trans rfl, (blk_cell BK450.out 0).trans rfl, (blk_cell BK450.out 1).trans rfl, (blk_cell BK456.out 0).trans rfl, (blk_cell BK456.out 1).trans rfl, (blk_cell BK462.out 0).trans rfl, (blk_cell BK462.out 1).trans rfl, (blk_cell BK468.out 0).trans rfl, (blk_cell BK468.out 1).trans rfl, (blk_cell BK475.out 0).trans rfl, (blk_cell BK475.out 1).trans rfl, (blk_cell BK482.out 0).trans rfl, (blk_cell BK482.out 1).trans rfl⟩ (fun hHeld => ?_)
              clear hK K
              refine norm_ (a' := ?_) ?_ ?_
              rotate_left
              ·show Act.put _ (some 126) _ = _
               simp only [Act.put, List.setIfInBounds_toArray, List.set_cons_zero, List.set_cons_succ, i64_w, i32_w]
               rfl
              refine one_ (i := 50) (N := some 128) #[true, true, true, true, true, true, true, true, true, true, true, true, true, true, true, true, true, true, true, true, true, true, true, true, true, true, true, true, true, true, true, true, true, true, true, true, true, true, true, true, true, true, true, true, true, true, true, true, true, true, true, false, false, false, false, false, false, false, false, false] rfl rfl (one_of HT_.out (by kernel_rfl)) (by decide) (fun K hK => ?_)
              refine goes_ Try.func25 (by kernel_rfl) rfl #[.agg #[.slice A0_0 l0_0.length c0_0, .int .i64 a0_1]] (by rfl) rfl rfl (by (try simp only [List.map_toArray, List.map_cons, List.map_nil]); first | done | rfl | (simp only [List.length_drop, List.length_take]; rfl)) ?_
              with_reducible refine (heronryref21_Bound.calls kj5 _ _ l0_0 a0_1 t501 _ ?side1 ?side2 A38.out).mono ?_
              (case side1 => repeat (first | exact (Kd.C_below HR0_0.out HB.out) | (with_reducible refine Kd.C_alloc ?_ _) | (with_reducible refine Kd.C_drewN ?_ _) | (with_reducible refine Kd.C_drew ?_)))
              (case side2 => exact HC0_0.out)
              rintro e w118 ⟨rfl, hb⟩
              refine ⟨_, rfl, ?_⟩
              have n0_ := Aside0.mk (Kd.R_below (by (with_reducible repeat (first | apply Kd.R_alloc | apply Kd.R_drewN | apply Kd.R_drew)); exact HO442.out) hb)
              have n1_ := Aside0.mk (Kd.R_below (by (with_reducible repeat (first | apply Kd.R_alloc | apply Kd.R_drewN | apply Kd.R_drew)); exact HO447.out) hb)
              have n2_ := Aside0.mk (Kd.R_below (by (with_reducible repeat (first | apply Kd.R_alloc | apply Kd.R_drewN | apply Kd.R_drew)); exact HO453.out) hb)
              have n3_ := Aside0.mk (Kd.R_below (by (with_reducible repeat (first | apply Kd.R_alloc | apply Kd.R_drewN | apply Kd.R_drew)); exact HO459.out) hb)
              have n4_ := Aside0.mk (Kd.R_below (by (with_reducible repeat (first | apply Kd.R_alloc | apply Kd.R_drewN | apply Kd.R_drew)); exact HO465.out) hb)
              have n5_ := Aside0.mk (Kd.R_below (by (with_reducible repeat (first | apply Kd.R_alloc | apply Kd.R_drewN | apply Kd.R_drew)); exact HO471.out) hb)
              have n6_ := Aside0.mk (Kd.R_below (by (with_reducible repeat (first | apply Kd.R_alloc | apply Kd.R_drewN | apply Kd.R_drew)); exact HO478.out) hb)
              have n7_ := Aside0.mk (Kd.R_below (by (with_reducible repeat (first | apply Kd.R_alloc | apply Kd.R_drewN | apply Kd.R_drew)); exact HO487.out) hb)
              have n8_ := Aside0.mk (Kd.R_below (by (with_reducible repeat (first | apply Kd.R_alloc | apply Kd.R_drewN | apply Kd.R_drew)); exact HO492.out) hb)
              have n9_ := Aside0.mk (Kd.R_below (by (with_reducible repeat (first | apply Kd.R_alloc | apply Kd.R_drewN | apply Kd.R_drew)); exact HO497.out) hb)
              have n10_ := Aside0.mk (blk_below (g := gb438) (o := .cells #[.slice A0_0 l0_0.length c0_0, .int .i64 a0_1] 39 (0, 0)) (by (with_reducible repeat (first | refine blk_drewN ?_ _ | refine blk_drew ?_ | refine blk_alloc ?_ _)); exact BK438.out) hb)
              have n11_ := Aside0.mk (blk_below (g := gb444) (o := .cells #[.slice Ao45 t440.length co45, .int .i64 t443] 26 (0, 0)) (by (with_reducible repeat (first | refine blk_drewN ?_ _ | refine blk_drew ?_ | refine blk_alloc ?_ _)); exact BK444.out) hb)
              have n12_ := Aside0.mk (blk_below (g := gb450) (o := .cells #[.slice Ao50 t445.length co50, .int .i64 t448] 26 (0, 0)) (by (with_reducible repeat (first | refine blk_drewN ?_ _ | refine blk_drew ?_ | refine blk_alloc ?_ _)); exact BK450.out) hb)
              have n13_ := Aside0.mk (blk_below (g := gb456) (o := .cells #[.slice Ao57 t451.length co57, .int .i64 t454] 39 (0, 0)) (by (with_reducible repeat (first | refine blk_drewN ?_ _ | refine blk_drew ?_ | refine blk_alloc ?_ _)); exact BK456.out) hb)
              have n14_ := Aside0.mk (blk_below (g := gb462) (o := .cells #[.slice Ao65 t457.length co65, .int .i64 t460] 26 (0, 0)) (by (with_reducible repeat (first | refine blk_drewN ?_ _ | refine blk_drew ?_ | refine blk_alloc ?_ _)); exact BK462.out) hb)
              have n15_ := Aside0.mk (blk_below (g := gb468) (o := .cells #[.slice Ao74 t463.length co74, .int .i64 t466] 39 (0, 0)) (by (with_reducible repeat (first | refine blk_drewN ?_ _ | refine blk_drew ?_ | refine blk_alloc ?_ _)); exact BK468.out) hb)
              have n16_ := Aside0.mk (blk_below (g := gb475) (o := .cells #[.slice Ao84 t469.length co84, .int .i64 t472] 26 (0, 0)) (by (with_reducible repeat (first | refine blk_drewN ?_ _ | refine blk_drew ?_ | refine blk_alloc ?_ _)); exact BK475.out) hb)
              have n17_ := Aside0.mk (blk_below (g := gb482) (o := .cells #[.slice Ao95 t476.length co95, .int .i64 t479] 39 (0, 0)) (by (with_reducible repeat (first | refine blk_drewN ?_ _ | refine blk_drew ?_ | refine blk_alloc ?_ _)); exact BK482.out) hb)
              have n18_ := Aside0.mk (below_step (by repeat (first | (with_reducible first | exact HB.out | apply below_alloc | apply pw_below_drewN | apply below_drew1 | refine below_set ?_ GE438.out | refine below_set ?_ GE444.out | refine below_set ?_ GE450.out | refine below_set ?_ GE456.out | refine below_set ?_ GE462.out | refine below_set ?_ GE468.out | refine below_set ?_ GE475.out | refine below_set ?_ GE482.out) | exact HB.out)) hb)
              clear HO442
              clear HO447
              clear HO453
              clear HO459
              clear HO465
              clear HO471
              clear HO478
              clear HO487
              clear HO492
              clear HO497
              clear BK438
              clear BK444
              clear BK450
              clear BK456
              clear BK462
              clear BK468
              clear BK475
              clear BK482
              clear HB
              have HO442 := n0_
              have HO447 := n1_
              have HO453 := n2_
              have HO459 := n3_
              have HO465 := n4_
              have HO471 := n5_
              have HO478 := n6_
              have HO487 := n7_
              have HO492 := n8_
              have HO497 := n9_
              have BK438 := n10_
              have BK444 := n11_
              have BK450 := n12_
              have BK456 := n13_
              have BK462 := n14_
              have BK468 := n15_
              have BK475 := n16_
              have BK482 := n17_
              have HB := n18_
              clear n0_ n1_ n2_ n3_ n4_ n5_ n6_ n7_ n8_ n9_ n10_ n11_ n12_ n13_ n14_ n15_ n16_ n17_ n18_
              (try clear hb)
              (try clear hb2)
              (try clear hk)
              (try clear hi)
              refine hK.out _ _ ⟨(blk_cell BK444.out 0).trans rfl, (blk_cell BK444.out 1).trans rfl, (blk_cell BK438.out 0).trans rfl, (blk_cell BK438.out 1).trans rfl, (blk_cell BK450.out 0).trans rfl, (blk_cell BK450.out 1).trans rfl, (blk_cell BK456.out 0).trans rfl, (blk_cell BK456.out 1).trans rfl, (blk_cell BK462.out 0).trans rfl, (blk_cell BK462.out 1).trans rfl, (blk_cell BK468.out 0).trans rfl, (blk_cell BK468.out 1).trans rfl, (blk_cell BK475.out 0).trans rfl, (blk_cell BK475.out 1).trans rfl, (blk_cell BK482.out 0).trans rfl, (blk_cell BK482.out 1).trans rfl⟩ (fun hHeld => ?_)
              clear hK K
              refine norm_ (a' := ?_) ?_ ?_
              rotate_left
              ·show Act.put _ (some 128) _ = _
               simp only [Act.put, List.setIfInBounds_toArray, List.set_cons_zero, List.set_cons_succ, i64_w, i32_w]
               rfl
              refine pure_ (i := 51) (N := some 129) (v := ?_) (a' := ?_) #[true, true, true, true, true, true, true, true, true, true, true, true, true, true, true, true, true, true, true, true, true, true, true, true, true, true, true, true, true, true, true, true, true, true, true, true, true, true, true, true, true, true, true, true, true, true, true, true, true, true, true, true, false, false, false, false, false, false, false, false] rfl rfl (any_of HT_.out (by kernel_rfl)) (fun _ _ _ h => h) (Or.inl ⟨by rfl, ?_⟩) ?_ ?_
              rotate_left
              ·intro w'
               go_simp
               with_reducible rfl
              rotate_left
              ·simp only [Act.put, List.setIfInBounds_toArray, List.set_cons_zero, List.set_cons_succ, i64_w, i32_w]
               rfl
              refine pure_ (i := 52) (N := some 130) (v := ?_) (a' := ?_) #[true, true, true, true, true, true, true, true, true, true, true, true, true, true, true, true, true, true, true, true, true, true, true, true, true, true, true, true, true, true, true, true, true, true, true, true, true, true, true, true, true, true, true, true, true, true, true, true, true, true, true, true, true, false, false, false, false, false, false, false] rfl rfl (any_of HT_.out (by kernel_rfl)) (fun _ _ _ h => h) (Or.inl ⟨by rfl, ?_⟩) ?_ ?_
              rotate_left
              ·intro w'
               go_simp
               with_reducible rfl
              rotate_left
              ·simp only [Act.put, List.setIfInBounds_toArray, List.set_cons_zero, List.set_cons_succ, i64_w, i32_w]
               rfl
              refine pure_ (i := 53) (N := some 131) (v := ?_) (a' := ?_) #[true, true, true, true, true, true, true, true, true, true, true, true, true, true, true, true, true, true, true, true, true, true, true, true, true, true, true, true, true, true, true, true, true, true, true, true, true, true, true, true, true, true, true, true, true, true, true, true, true, true, true, true, true, true, false, false, false, false, false, false] rfl rfl (any_of HT_.out (by kernel_rfl)) (fun _ _ _ h => h) (Or.inl ⟨by rfl, ?_⟩) ?_ ?_
              rotate_left
              ·intro w'
               go_simp
               with_reducible rfl
              rotate_left
              ·simp only [Act.put, List.setIfInBounds_toArray, List.set_cons_zero, List.set_cons_succ, i64_w, i32_w]
               rfl
              refine take_ (i := 54) (N := some 132) (v := ?_) (a' := ?_) #[true, true, true, true, true, true, true, true, true, true, true, true, true, true, true, true, true, true, true, true, true, true, true, true, true, true, true, true, true, true, true, true, true, true, true, true, true, true, true, true, true, true, true, true, true, true, true, true, true, true, true, true, true, true, true, false, false, false, false, false] rfl rfl (take_ofW HT_.out HW_.out (by kernel_rfl)) (fun _ _ _ h => h) (Or.inl ⟨by rfl, ?_⟩) hHeld ?_ ?_
              rotate_left
              ·rintro w' ⟨s0, s1, s2, s3, s4, s5, s6, s7, s8, s9, s10, s11, s12, s13, s14, s15⟩
               go_simp
               with_reducible rfl
              rotate_left
              ·simp only [Act.put, List.setIfInBounds_toArray, List.set_cons_zero, List.set_cons_succ, i64_w, i32_w]
               rfl
              refine take_ (i := 56) (N := some 134) (v := ?_) (a' := ?_) #[true, true, true, true, true, true, true, true, true, true, true, true, true, true, true, true, true, true, true, true, true, true, true, true, true, true, true, true, true, true, true, true, true, true, true, true, true, true, true, true, true, true, true, true, true, true, true, true, true, true, true, true, true, true, true, false, true, false, false, false] rfl rfl (take_ofW HT_.out HW_.out (by kernel_rfl)) (fun _ _ _ h => h) (Or.inl ⟨by rfl, ?_⟩) hHeld ?_ ?_
              rotate_left
              ·rintro w' ⟨s0, s1, s2, s3, s4, s5, s6, s7, s8, s9, s10, s11, s12, s13, s14, s15⟩
               go_simp
               with_reducible rfl
              rotate_left
              ·simp only [Act.put, List.setIfInBounds_toArray, List.set_cons_zero, List.set_cons_succ, i64_w, i32_w]
               rfl
              refine one_ (i := 55) (N := some 133) #[true, true, true, true, true, true, true, true, true, true, true, true, true, true, true, true, true, true, true, true, true, true, true, true, true, true, true, true, true, true, true, true, true, true, true, true, true, true, true, true, true, true, true, true, true, true, true, true, true, true, true, true, true, true, true, true, true, false, false, false] rfl rfl (one_of HT_.out (by kernel_rfl)) (by decide) (fun K hK => ?_)
              refine goes_ Try.func24 (by kernel_rfl) rfl #[.agg #[.slice Ao45 t440.length co45, .int .i64 t443]] (by rfl) rfl rfl (by (try simp only [List.map_toArray, List.map_cons, List.map_nil]); first | done | rfl | (simp only [List.length_drop, List.length_take]; rfl)) ?_
              with_reducible refine (heronrylaw21_theirs.calls kj5 _ _ t440 t443 t502 t505 _ ?side1 ?side2 A40.out).mono ?_
              (case side1 => repeat (first | exact (Kd.R_reads' HO442.out).2.2 | (with_reducible refine Kd.C_alloc ?_ _) | (with_reducible refine Kd.C_drewN ?_ _) | (with_reducible refine Kd.C_drew ?_)))
              (case side2 => exact (Kd.R_reads' HO442.out).2.1)
              rintro e w119 ⟨v503, rfl, ho0, hb⟩
              refine ⟨_, rfl, ?_⟩
              have n0_ := Aside0.mk (Kd.R_below (by (with_reducible repeat (first | apply Kd.R_alloc | apply Kd.R_drewN | apply Kd.R_drew)); exact HO442.out) hb)
              have n1_ := Aside0.mk (Kd.R_below (by (with_reducible repeat (first | apply Kd.R_alloc | apply Kd.R_drewN | apply Kd.R_drew)); exact HO447.out) hb)
              have n2_ := Aside0.mk (Kd.R_elder' (by (with_reducible repeat (first | apply Kd.R_alloc | apply Kd.R_drewN | apply Kd.R_drew)); exact HO453.out) (Kd.R_base ho0) hb)
              have n3_ := Aside0.mk (Kd.R_below (by (with_reducible repeat (first | apply Kd.R_alloc | apply Kd.R_drewN | apply Kd.R_drew)); exact HO459.out) hb)
              have n4_ := Aside0.mk (Kd.R_elder' (by (with_reducible repeat (first | apply Kd.R_alloc | apply Kd.R_drewN | apply Kd.R_drew)); exact HO465.out) (Kd.R_base ho0) hb)
              have n5_ := Aside0.mk (Kd.R_below (by (with_reducible repeat (first | apply Kd.R_alloc | apply Kd.R_drewN | apply Kd.R_drew)); exact HO471.out) hb)
              have n6_ := Aside0.mk (Kd.R_elder' (by (with_reducible repeat (first | apply Kd.R_alloc | apply Kd.R_drewN | apply Kd.R_drew)); exact HO478.out) (Kd.R_base ho0) hb)
              have n7_ := Aside0.mk (Kd.R_elder' (by (with_reducible repeat (first | apply Kd.R_alloc | apply Kd.R_drewN | apply Kd.R_drew)); exact HO487.out) (Kd.R_base ho0) hb)
              have n8_ := Aside0.mk (Kd.R_elder' (by (with_reducible repeat (first | apply Kd.R_alloc | apply Kd.R_drewN | apply Kd.R_drew)); exact HO492.out) (Kd.R_base ho0) hb)
              have n9_ := Aside0.mk (Kd.R_elder' (by (with_reducible repeat (first | apply Kd.R_alloc | apply Kd.R_drewN | apply Kd.R_drew)); exact HO497.out) (Kd.R_base ho0) hb)
              have n10_ := Aside0.mk (Kd.R_lower (Kd.R_new' (Kd.R_new' (Kd.R_new' (Kd.R_new' (Kd.R_new' (Kd.R_new' ho0 (Kd.R_lt (by (with_reducible repeat (first | apply Kd.R_alloc | apply Kd.R_drewN | apply Kd.R_drew)); exact HO453.out))) (Kd.R_lt (by (with_reducible repeat (first | apply Kd.R_alloc | apply Kd.R_drewN | apply Kd.R_drew)); exact HO465.out))) (Kd.R_lt (by (with_reducible repeat (first | apply Kd.R_alloc | apply Kd.R_drewN | apply Kd.R_drew)); exact HO478.out))) (Kd.R_lt (by (with_reducible repeat (first | apply Kd.R_alloc | apply Kd.R_drewN | apply Kd.R_drew)); exact HO487.out))) (Kd.R_lt (by (with_reducible repeat (first | apply Kd.R_alloc | apply Kd.R_drewN | apply Kd.R_drew)); exact HO492.out))) (Kd.R_lt (by (with_reducible repeat (first | apply Kd.R_alloc | apply Kd.R_drewN | apply Kd.R_drew)); exact HO497.out))) (below_size (by repeat (first | (with_reducible first | exact HB.out | apply below_alloc | apply pw_below_drewN | apply below_drew1 | refine below_set ?_ GE438.out | refine below_set ?_ GE444.out | refine below_set ?_ GE450.out | refine below_set ?_ GE456.out | refine below_set ?_ GE462.out | refine below_set ?_ GE468.out | refine below_set ?_ GE475.out | refine below_set ?_ GE482.out) | exact HB.out))))
              have n11_ := Aside0.mk (blk_below (g := gb438) (o := .cells #[.slice A0_0 l0_0.length c0_0, .int .i64 a0_1] 39 (0, 0)) (by (with_reducible repeat (first | refine blk_drewN ?_ _ | refine blk_drew ?_ | refine blk_alloc ?_ _)); exact BK438.out) hb)
              have n12_ := Aside0.mk (blk_below (g := gb444) (o := .cells #[.slice Ao45 t440.length co45, .int .i64 t443] 26 (0, 0)) (by (with_reducible repeat (first | refine blk_drewN ?_ _ | refine blk_drew ?_ | refine blk_alloc ?_ _)); exact BK444.out) hb)
              have n13_ := Aside0.mk (blk_below (g := gb450) (o := .cells #[.slice Ao50 t445.length co50, .int .i64 t448] 26 (0, 0)) (by (with_reducible repeat (first | refine blk_drewN ?_ _ | refine blk_drew ?_ | refine blk_alloc ?_ _)); exact BK450.out) hb)
              have n14_ := Aside0.mk (blk_below (g := gb456) (o := .cells #[.slice Ao57 t451.length co57, .int .i64 t454] 39 (0, 0)) (by (with_reducible repeat (first | refine blk_drewN ?_ _ | refine blk_drew ?_ | refine blk_alloc ?_ _)); exact BK456.out) hb)
              have n15_ := Aside0.mk (blk_below (g := gb462) (o := .cells #[.slice Ao65 t457.length co65, .int .i64 t460] 26 (0, 0)) (by (with_reducible repeat (first | refine blk_drewN ?_ _ | refine blk_drew ?_ | refine blk_alloc ?_ _)); exact BK462.out) hb)
              have n16_ := Aside0.mk (blk_below (g := gb468) (o := .cells #[.slice Ao74 t463.length co74, .int .i64 t466] 39 (0, 0)) (by (with_reducible repeat (first | refine blk_drewN ?_ _ | refine blk_drew ?_ | refine blk_alloc ?_ _)); exact BK468.out) hb)
              have n17_ := Aside0.mk (blk_below (g := gb475) (o := .cells #[.slice Ao84 t469.length co84, .int .i64 t472] 26 (0, 0)) (by (with_reducible repeat (first | refine blk_drewN ?_ _ | refine blk_drew ?_ | refine blk_alloc ?_ _)); exact BK475.out) hb)
              have n18_ := Aside0.mk (blk_below (g := gb482) (o := .cells #[.slice Ao95 t476.length co95, .int .i64 t479] 39 (0, 0)) (by (with_reducible repeat (first | refine blk_drewN ?_ _ | refine blk_drew ?_ | refine blk_alloc ?_ _)); exact BK482.out) hb)
              have n19_ := Aside0.mk (below_step (by repeat (first | (with_reducible first | exact HB.out | apply below_alloc | apply pw_below_drewN | apply below_drew1 | refine below_set ?_ GE438.out | refine below_set ?_ GE444.out | refine below_set ?_ GE450.out | refine below_set ?_ GE456.out | refine below_set ?_ GE462.out | refine below_set ?_ GE468.out | refine below_set ?_ GE475.out | refine below_set ?_ GE482.out) | exact HB.out)) hb)
              clear HO442
              clear HO447
              clear HO453
              clear HO459
              clear HO465
              clear HO471
              clear HO478
              clear HO487
              clear HO492
              clear HO497
              clear BK438
              clear BK444
              clear BK450
              clear BK456
              clear BK462
              clear BK468
              clear BK475
              clear BK482
              clear HB
              have HO442 := n0_
              have HO447 := n1_
              have HO453 := n2_
              have HO459 := n3_
              have HO465 := n4_
              have HO471 := n5_
              have HO478 := n6_
              have HO487 := n7_
              have HO492 := n8_
              have HO497 := n9_
              have HO504 := n10_
              have BK438 := n11_
              have BK444 := n12_
              have BK450 := n13_
              have BK456 := n14_
              have BK462 := n15_
              have BK468 := n16_
              have BK475 := n17_
              have BK482 := n18_
              have HB := n19_
              clear n0_ n1_ n2_ n3_ n4_ n5_ n6_ n7_ n8_ n9_ n10_ n11_ n12_ n13_ n14_ n15_ n16_ n17_ n18_ n19_
              (try clear hb)
              (try clear hb2)
              (try clear hk)
              (try clear hi)
              (try clear ho0)
              obtain ⟨Ao120, co120, eo120⟩ := Kd.R_slice HO504.out
              (first | subst eo120 | (injection eo120 with f1_ f2_ f3_; have f4_ := f1_.symm; have f5_ := f3_.symm; clear f1_ f2_ f3_; subst f4_; subst f5_))
              refine hK.out _ _ ⟨(blk_cell BK444.out 0).trans rfl, (blk_cell BK444.out 1).trans rfl, (blk_cell BK438.out 0).trans rfl, (blk_cell BK438.out 1).trans rfl, (blk_cell BK450.out 0).trans rfl, (blk_cell BK450.out 1).trans rfl, (blk_cell BK456.out 0).trans rfl, (blk_cell BK456.out 1).trans rfl, (blk_cell BK462.out 0).trans rfl, (blk_cell BK462.out 1).trans rfl, (blk_cell BK468.out 0).trans rfl, (blk_cell BK468.out 1).trans rfl, (blk_cell BK475.out 0).trans rfl, (blk_cell BK475.out 1).trans rfl, (blk_cell BK482.out 0).trans rfl, (blk_cell BK482.out 1).trans rfl⟩ (fun hHeld => ?_)
              clear hK K
              refine norm_ (a' := ?_) ?_ ?_
              rotate_left
              ·show Act.put _ (some 133) _ = _
               simp only [Act.put, List.setIfInBounds_toArray, List.set_cons_zero, List.set_cons_succ, i64_w, i32_w]
               rfl
              refine one_ (i := 57) (N := some 135) #[true, true, true, true, true, true, true, true, true, true, true, true, true, true, true, true, true, true, true, true, true, true, true, true, true, true, true, true, true, true, true, true, true, true, true, true, true, true, true, true, true, true, true, true, true, true, true, true, true, true, true, true, true, true, true, true, true, true, false, false] rfl rfl (one_of HT_.out (by kernel_rfl)) (by decide) (fun K hK => ?_)
              refine goes_ Try.func23 (by kernel_rfl) rfl #[.agg #[.slice Ao120 t502.length co120, .int .i64 t505], .agg #[.slice A0_0 l0_0.length c0_0, .int .i64 a0_1]] (by rfl) rfl rfl (by (try simp only [List.map_toArray, List.map_cons, List.map_nil]); first | done | rfl | (simp only [List.length_drop, List.length_take]; rfl)) ?_
              with_reducible refine (heronryref21_Same.calls kj5 _ _ t502 t505 _ _ l0_0 a0_1 t506 _ ?side1 ?side2 ?side3 ?side4 A41.out).mono ?_
              (case side1 => repeat (first | exact (Kd.R_reads' HO504.out).2.2 | (with_reducible refine Kd.C_alloc ?_ _) | (with_reducible refine Kd.C_drewN ?_ _) | (with_reducible refine Kd.C_drew ?_)))
              (case side2 => exact (Kd.R_reads' HO504.out).2.1)
              (case side3 => repeat (first | exact (Kd.C_below HR0_0.out HB.out) | (with_reducible refine Kd.C_alloc ?_ _) | (with_reducible refine Kd.C_drewN ?_ _) | (with_reducible refine Kd.C_drew ?_)))
              (case side4 => exact HC0_0.out)
              rintro e w121 ⟨rfl, hb⟩
              refine ⟨_, rfl, ?_⟩
              have n0_ := Aside0.mk (Kd.R_below (by (with_reducible repeat (first | apply Kd.R_alloc | apply Kd.R_drewN | apply Kd.R_drew)); exact HO442.out) hb)
              have n1_ := Aside0.mk (Kd.R_below (by (with_reducible repeat (first | apply Kd.R_alloc | apply Kd.R_drewN | apply Kd.R_drew)); exact HO447.out) hb)
              have n2_ := Aside0.mk (Kd.R_below (by (with_reducible repeat (first | apply Kd.R_alloc | apply Kd.R_drewN | apply Kd.R_drew)); exact HO453.out) hb)
              have n3_ := Aside0.mk (Kd.R_below (by (with_reducible repeat (first | apply Kd.R_alloc | apply Kd.R_drewN | apply Kd.R_drew)); exact HO459.out) hb)
              have n4_ := Aside0.mk (Kd.R_below (by (with_reducible repeat (first | apply Kd.R_alloc | apply Kd.R_drewN | apply Kd.R_drew)); exact HO465.out) hb)
              have n5_ := Aside0.mk (Kd.R_below (by (with_reducible repeat (first | apply Kd.R_alloc | apply Kd.R_drewN | apply Kd.R_drew)); exact HO471.out) hb)
              have n6_ := Aside0.mk (Kd.R_below (by (with_reducible repeat (first | apply Kd.R_alloc | apply Kd.R_drewN | apply Kd.R_drew)); exact HO478.out) hb)
              have n7_ := Aside0.mk (Kd.R_below (by (with_reducible repeat (first | apply Kd.R_alloc | apply Kd.R_drewN | apply Kd.R_drew)); exact HO487.out) hb)
              have n8_ := Aside0.mk (Kd.R_below (by (with_reducible repeat (first | apply Kd.R_alloc | apply Kd.R_drewN | apply Kd.R_drew)); exact HO492.out) hb)
              have n9_ := Aside0.mk (Kd.R_below (by (with_reducible repeat (first | apply Kd.R_alloc | apply Kd.R_drewN | apply Kd.R_drew)); exact HO497.out) hb)
              have n10_ := Aside0.mk (Kd.R_below (by (with_reducible repeat (first | apply Kd.R_alloc | apply Kd.R_drewN | apply Kd.R_drew)); exact HO504.out) hb)
              have n11_ := Aside0.mk (blk_below (g := gb438) (o := .cells #[.slice A0_0 l0_0.length c0_0, .int .i64 a0_1] 39 (0, 0)) (by (with_reducible repeat (first | refine blk_drewN ?_ _ | refine blk_drew ?_ | refine blk_alloc ?_ _)); exact BK438.out) hb)
              have n12_ := Aside0.mk (blk_below (g := gb444) (o := .cells #[.slice Ao45 t440.length co45, .int .i64 t443] 26 (0, 0)) (by (with_reducible repeat (first | refine blk_drewN ?_ _ | refine blk_drew ?_ | refine blk_alloc ?_ _)); exact BK444.out) hb)
              have n13_ := Aside0.mk (blk_below (g := gb450) (o := .cells #[.slice Ao50 t445.length co50, .int .i64 t448] 26 (0, 0)) (by (with_reducible repeat (first | refine blk_drewN ?_ _ | refine blk_drew ?_ | refine blk_alloc ?_ _)); exact BK450.out) hb)
              have n14_ := Aside0.mk (blk_below (g := gb456) (o := .cells #[.slice Ao57 t451.length co57, .int .i64 t454] 39 (0, 0)) (by (with_reducible repeat (first | refine blk_drewN ?_ _ | refine blk_drew ?_ | refine blk_alloc ?_ _)); exact BK456.out) hb)
              have n15_ := Aside0.mk (blk_below (g := gb462) (o := .cells #[.slice Ao65 t457.length co65, .int .i64 t460] 26 (0, 0)) (by (with_reducible repeat (first | refine blk_drewN ?_ _ | refine blk_drew ?_ | refine blk_alloc ?_ _)); exact BK462.out) hb)
              have n16_ := Aside0.mk (blk_below (g := gb468) (o := .cells #[.slice Ao74 t463.length co74, .int .i64 t466] 39 (0, 0)) (by (with_reducible repeat (first | refine blk_drewN ?_ _ | refine blk_drew ?_ | refine blk_alloc ?_ _)); exact BK468.out) hb)
              have n17_ := Aside0.mk (blk_below (g := gb475) (o := .cells #[.slice Ao84 t469.length co84, .int .i64 t472] 26 (0, 0)) (by (with_reducible repeat (first | refine blk_drewN ?_ _ | refine blk_drew ?_ | refine blk_alloc ?_ _)); exact BK475.out) hb)
              have n18_ := Aside0.mk (blk_below (g := gb482) (o := .cells #[.slice Ao95 t476.length co95, .int .i64 t479] 39 (0, 0)) (by (with_reducible repeat (first | refine blk_drewN ?_ _ | refine blk_drew ?_ | refine blk_alloc ?_ _)); exact BK482.out) hb)
              have n19_ := Aside0.mk (below_step (by repeat (first | (with_reducible first | exact HB.out | apply below_alloc | apply pw_below_drewN | apply below_drew1 | refine below_set ?_ GE438.out | refine below_set ?_ GE444.out | refine below_set ?_ GE450.out | refine below_set ?_ GE456.out | refine below_set ?_ GE462.out | refine below_set ?_ GE468.out | refine below_set ?_ GE475.out | refine below_set ?_ GE482.out) | exact HB.out)) hb)
              clear HO442
              clear HO447
              clear HO453
              clear HO459
              clear HO465
              clear HO471
              clear HO478
              clear HO487
              clear HO492
              clear HO497
              clear HO504
              clear BK438
              clear BK444
              clear BK450
              clear BK456
              clear BK462
              clear BK468
              clear BK475
              clear BK482
              clear HB
              have HO442 := n0_
              have HO447 := n1_
              have HO453 := n2_
              have HO459 := n3_
              have HO465 := n4_
              have HO471 := n5_
              have HO478 := n6_
              have HO487 := n7_
              have HO492 := n8_
              have HO497 := n9_
              have HO504 := n10_
              have BK438 := n11_
              have BK444 := n12_
              have BK450 := n13_
              have BK456 := n14_
              have BK462 := n15_
              have BK468 := n16_
              have BK475 := n17_
              have BK482 := n18_
              have HB := n19_
              clear n0_ n1_ n2_ n3_ n4_ n5_ n6_ n7_ n8_ n9_ n10_ n11_ n12_ n13_ n14_ n15_ n16_ n17_ n18_ n19_
              (try clear hb)
              (try clear hb2)
              (try clear hk)
              (try clear hi)
              refine hK.out _ _ ⟨(blk_cell BK444.out 0).trans rfl, (blk_cell BK444.out 1).trans rfl, (blk_cell BK438.out 0).trans rfl, (blk_cell BK438.out 1).trans rfl, (blk_cell BK450.out 0).trans rfl, (blk_cell BK450.out 1).trans rfl, (blk_cell BK456.out 0).trans rfl, (blk_cell BK456.out 1).trans rfl, (blk_cell BK462.out 0).trans rfl, (blk_cell BK462.out 1).trans rfl, (blk_cell BK468.out 0).trans rfl, (blk_cell BK468.out 1).trans rfl, (blk_cell BK475.out 0).trans rfl, (blk_cell BK475.out 1).trans rfl, (blk_cell BK482.out 0).trans rfl, (blk_cell BK482.out 1).trans rfl⟩ (fun hHeld => ?_)
              clear hK K
              refine norm_ (a' := ?_) ?_ ?_
              rotate_left
              ·show Act.put _ (some 135) _ = _
               simp only [Act.put, List.setIfInBounds_toArray, List.set_cons_zero, List.set_cons_succ, i64_w, i32_w]
               rfl
              refine pure_ (i := 58) (N := some 136) (v := ?_) (a' := ?_) #[true, true, true, true, true, true, true, true, true, true, true, true, true, true, true, true, true, true, true, true, true, true, true, true, true, true, true, true, true, true, true, true, true, true, true, true, true, true, true, true, true, true, true, true, true, true, true, true, true, true, true, true, true, true, true, true, true, true, true, false] rfl rfl (any_of HT_.out (by kernel_rfl)) (fun _ _ _ h => h) (Or.inl ⟨by rfl, ?_⟩) ?_ ?_
              rotate_left
              ·intro w'
               go_simp
               with_reducible rfl
              rotate_left
              ·simp only [Act.put, List.setIfInBounds_toArray, List.set_cons_zero, List.set_cons_succ, i64_w, i32_w]
               rfl
              refine pure_ (i := 59) (N := some 8) (v := ?_) (a' := ?_) #[true, true, true, true, true, true, true, true, true, true, true, true, true, true, true, true, true, true, true, true, true, true, true, true, true, true, true, true, true, true, true, true, true, true, true, true, true, true, true, true, true, true, true, true, true, true, true, true, true, true, true, true, true, true, true, true, true, true, true, true] rfl rfl (any_of HT_.out (by kernel_rfl)) (fun _ _ _ h => h) (Or.inl ⟨by rfl, ?_⟩) ?_ ?_
              rotate_left
              ·intro w'
               go_simp
               with_reducible rfl
              rotate_left
              ·simp only [Act.put, List.setIfInBounds_toArray, List.set_cons_zero, List.set_cons_succ, i64_w, i32_w]
               rfl
              refine done_ (done_of HT_.out (by kernel_rfl)) ?_
              try go_wp2
              go_ret
              exact ⟨by first | rfl | (simp [errW_none, errW_some] <;> rfl) | (simp [*, errW_none, errW_some] <;> rfl), by repeat (first | (with_reducible first | exact HB.out | apply below_alloc | apply pw_below_drewN | apply below_drew1 | refine below_set ?_ GE438.out | refine below_set ?_ GE444.out | refine below_set ?_ GE450.out | refine below_set ?_ GE456.out | refine below_set ?_ GE462.out | refine below_set ?_ GE468.out | refine below_set ?_ GE475.out | refine below_set ?_ GE482.out) | exact HB.out)⟩
             ·rw [if_neg c39] at H
              exact absurd H (by simp)
            ·rw [if_neg c36] at H
             exact absurd H (by simp)
           ·rw [if_neg c35] at H
            exact absurd H (by simp)
          ·replace c34 := Bool.eq_false_iff.mpr c34
           subst c34
           have H1 : (none) = some r := by rw [if_neg (show ¬ (false = true) by decide)] at H; exact H
           clear H
           have H := H1
           clear H1
           exact absurd H (by simp)
         ·rw [if_neg c31] at H
          exact absurd H (by simp)
        ·replace c30 := Bool.eq_false_iff.mpr c30
         subst c30
         have H1 : (none) = some r := by rw [if_neg (show ¬ (false = true) by decide)] at H; exact H
         clear H
         have H := H1
         clear H1
         exact absurd H (by simp)
       ·rw [if_neg c27] at H
        exact absurd H (by simp)
      ·replace c26 := Bool.eq_false_iff.mpr c26
       subst c26
       have H1 : (none) = some r := by rw [if_neg (show ¬ (false = true) by decide)] at H; exact H
       clear H
       have H := H1
       clear H1
       exact absurd H (by simp)
     ·rw [if_neg c23] at H
      exact absurd H (by simp)
    ·replace c20 := Bool.eq_false_iff.mpr c20
     subst c20
     have H1 : (none) = some r := by rw [if_neg (show ¬ (false = true) by decide)] at H; exact H
     clear H
     have H := H1
     clear H1
     exact absurd H (by simp)

end Go.Proofs.Ytjbdlgjhnldfbaa.Q
