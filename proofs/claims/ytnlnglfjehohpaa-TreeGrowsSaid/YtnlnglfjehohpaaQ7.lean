-- Cut to what one claim reaches, out of what the kit's print laid for this seat (wip/tools/trim.py).
import Derived.Test.YtnlnglfjehohpaaQ0
import Derived.Test.YtnlnglfjehohpaaQ1
import Derived.Test.YtnlnglfjehohpaaQ3
namespace Go.Proofs.Ytnlnglfjehohpaa.Q
open Go.RowKit Go.Proofs.YtnlnglfjehohpaaW.PrintWords Go.Proofs.YtnlnglfjehohpaaW.PrintLast Go.Proofs.YtnlnglfjehohpaaW.PrintMore
attribute [local go_sem] max2_int min2_int max_two min_two max_three min_three max_four min_four   -- for this text's walks alone
set_option linter.unusedVariables false
set_option linter.unusedSimpArgs false

mutual
def heronrylaw09_grown.l0 : Nat → List (S47) → Int → List (S35) → Int → Option ((List (S35)) × Int)
 | 0, _, _, _, _ => none
 | k + 1, x0, x4, x192000, x192001 => if x4 < (x0.length : Int) then (if (x192000.length : Int) > 0 then (if 0 ≤ x4 then (if (wrap64 ((x192000.length : Int) + 1)) = 0 then (none) else (heronrylaw09_grown.j1 k x0 x4 (wrap64 ((Int.tmod (Go.bits .and .i64 ((rd_T47 x0 x4).f1) 65535) (wrap64 ((x192000.length : Int) + 1))) - 1)) x192000 x192001)) else (none)) else (heronrylaw09_grown.j1 k x0 x4 (-1) x192000 x192001)) else (some (x192000, x192001))
def heronrylaw09_grown.j1 : Nat → List (S47) → Int → Int → List (S35) → Int → Option ((List (S35)) × Int)
 | 0, _, _, _, _, _ => none
 | k + 1, x0, x4, x6, x192000, x192001 => if 0 ≤ x4 then (if x4 < (x0.length : Int) then (if ((rd_T47 x0 x4).f0) = 0 then (heronrylaw09_grown.j2 k x0 x4 x6 ((rd_T47 x0 x4).f0) (((rd_T47 x0 x4).f0) == 0) x192000 x192001) else (heronrylaw09_grown.j2 k x0 x4 x6 ((rd_T47 x0 x4).f0) (((rd_T47 x0 x4).f0) == 1) x192000 x192001)) else (none)) else (none)
def heronrylaw09_grown.j2 : Nat → List (S47) → Int → Int → Int → Bool → List (S35) → Int → Option ((List (S35)) × Int)
 | 0, _, _, _, _, _, _, _ => none
 | k + 1, x0, x4, x6, x41, x42, x192000, x192001 => if x42 = true then ((tree_Begin.f k x192000 x192001 x6).bind fun bt194 => (if bt194.2.2.2 = 0 then (heronrylaw09_grown.l0 k x0 (wrap64 (x4 + 1)) bt194.1 bt194.2.1) else (heronrylaw09_grown.l0 k x0 (wrap64 (x4 + 1)) x192000 x192001))) else (if x41 = 2 then ((tree_Commit.f k x192000 x192001 x6).bind fun bt201 => (if bt201.2.2 = 0 then (heronrylaw09_grown.l0 k x0 (wrap64 (x4 + 1)) bt201.1 bt201.2.1) else (heronrylaw09_grown.l0 k x0 (wrap64 (x4 + 1)) x192000 x192001))) else (if x41 = 3 then ((tree_Abort.f x192000 x192001 x6).bind fun bt207 => (if bt207.2.2.2 = 0 then (heronrylaw09_grown.l0 k x0 (wrap64 (x4 + 1)) bt207.1 bt207.2.1) else (heronrylaw09_grown.l0 k x0 (wrap64 (x4 + 1)) x192000 x192001))) else (heronrylaw09_grown.l0 k x0 (wrap64 (x4 + 1)) x192000 x192001)))
end
def heronrylaw09_grown.f (k : Nat) (l0 : List (S47)) : Option ((List (S35)) × Int) := heronrylaw09_grown.l0 k l0 0 ([] : List (S35)) 0
set_option maxHeartbeats 8000000 in
set_option maxRecDepth 100000 in
theorem heronrylaw09_grown.calls (k : Nat) (A0 : Option Addr) (c0 : Nat) (l0 : List (S47)) (r1 : List (S35)) (r2 : Int) (w : World) (hr0 : Kd.C k47 w A0 l0.length l0) (hc0 : l0.length ≤ c0) (h : heronrylaw09_grown.f k l0 = some (r1, r2)) :
  Calls Try.prog 9 #[.slice A0 l0.length c0] w fun e w' => ∃ v0_ : Value, e = .returned (.agg #[v0_, .int .i64 r2]) ∧ Kd.R k35 35 w' w.heap.size (fun _ => True) v0_ r1 ∧ Below w.heap.size w w' := by
 have hu26 := Try.underlying26
 have HR0 := Aside0.mk hr0
 have HC0 := Aside0.mk hc0
 clear hr0 hc0
 have HB := Aside0.mk (Below.refl w.heap.size w)
 have H : (heronrylaw09_grown.l0 k l0 0 ([] : List (S35)) 0) = some (r1, r2) := h
 clear h
 have H' := Aside0.mk H
 clear H
 go_enter Try.func9, Try.ntmps9
 go_wp2_with (first | ((with_reducible refine gate_dst (N := 2) rfl ?_); refine box_event ?hg (N := 2) ?hd (cs := #[.slice none 0 0, .int .i64 0]) (t := 26) ?hr ?_; (case hd => rfl); (case hg => rfl); (case hr => first | (go_simp; done) | (go_simp; rfl)); intro gb190 hg w2 hbox hb; have n0_ := Aside0.mk (below_step (by repeat (first | (with_reducible first | exact HB.out | apply below_alloc | apply pw_below_drewN | apply below_drew1) | exact HB.out)) hb); have n1_ := Aside0.mk (hbox); have n2_ := Aside0.mk ((by rw [hg]; exact (below_size (by repeat (first | (with_reducible first | exact HB.out | apply below_alloc | apply pw_below_drewN | apply below_drew1) | exact HB.out))) : w.heap.size ≤ gb190)); have n3_ := Aside0.mk ((by rw [hg]; exact (below_size (by repeat (first | (with_reducible first | exact HB.out | apply below_alloc | apply pw_below_drewN | apply below_drew1) | exact HB.out))) : w.heap.size ≤ gb190)); clear HB; have HB := n0_; have BK190 := n1_; have GW190 := n2_; have GE190 := n3_; clear n0_ n1_ n2_ n3_; clear hb hbox hg) | ((with_reducible refine gate_dst (N := 3) rfl ?_); refine box_event ?hg (N := 3) ?hd (cs := #[.slice none 0 0, .int .i64 0]) (t := 26) ?hr ?_; (case hd => rfl); (case hg => rfl); (case hr => first | (go_simp; done) | (go_simp; rfl)); intro gb191 hg w3 hbox hb; have n0_ := Aside0.mk (blk_below (g := gb190) (o := .cells #[.slice none 0 0, .int .i64 0] 26 (0, 0)) (by (with_reducible repeat (first | refine blk_drewN ?_ _ | refine blk_drew ?_ | refine blk_alloc ?_ _)); exact BK190.out) hb); have n1_ := Aside0.mk (below_step (by repeat (first | (with_reducible first | exact HB.out | apply below_alloc | apply pw_below_drewN | apply below_drew1 | refine below_set ?_ GE190.out) | exact HB.out)) hb); have n2_ := Aside0.mk (hbox); have n3_ := Aside0.mk ((by rw [hg]; exact (below_size (by repeat (first | (with_reducible first | exact HB.out | apply below_alloc | apply pw_below_drewN | apply below_drew1 | refine below_set ?_ GE190.out) | exact HB.out))) : w.heap.size ≤ gb191)); have n4_ := Aside0.mk ((by rw [hg]; exact (below_size (by repeat (first | (with_reducible first | exact HB.out | apply below_alloc | apply pw_below_drewN | apply below_drew1 | refine below_set ?_ GE190.out) | exact HB.out))) : w.heap.size ≤ gb191)); have n5_ := Aside0.mk ((by rw [hg]; exact Nat.ne_of_lt (blk_lt (g := gb190) (o := .cells #[.slice none 0 0, .int .i64 0] 26 (0, 0)) (by (with_reducible repeat (first | refine blk_drewN ?_ _ | refine blk_drew ?_ | refine blk_alloc ?_ _)); exact BK190.out)) : gb190 ≠ gb191)); have n6_ := Aside0.mk ((by rw [hg]; exact Nat.ne_of_gt (blk_lt (g := gb190) (o := .cells #[.slice none 0 0, .int .i64 0] 26 (0, 0)) (by (with_reducible repeat (first | refine blk_drewN ?_ _ | refine blk_drew ?_ | refine blk_alloc ?_ _)); exact BK190.out)) : gb191 ≠ gb190)); clear BK190; clear HB; have BK190 := n0_; have HB := n1_; have BK191 := n2_; have GW191 := n3_; have GE191 := n4_; have NB190_191 := n5_; have NB191_190 := n6_; clear n0_ n1_ n2_ n3_ n4_ n5_ n6_; clear hb hbox hg; have hnb4 := NB191_190.out; have hnc4 := NB190_191.out; have hcz5_0 : w3.cell? ⟨gb191, 0, none⟩ = some (.slice none 0 0) := (blk_cell BK191.out 0).trans rfl; have hcz5_1 : w3.cell? ⟨gb191, 1, none⟩ = some (.int .i64 0) := (blk_cell BK191.out 1).trans rfl; have hfz5_0 := blk_frozen BK191.out 0; have hfz5_1 := blk_frozen BK191.out 1))
 go_loopg [4] k (fun kq v4 w' => ∃ (x4_1 : Int) (x192000_1 : List (S35)) (x192001_1 : Int) (u192000 : Value), v4 = .int .i64 x4_1 ∧ Aside0 (heronrylaw09_grown.l0 kq l0 x4_1 x192000_1 x192001_1 = some (r1, r2)) ∧ Aside0 (kq ≤ k) ∧ Aside0 (Kd.R k35 35 w' w.heap.size (fun _ => True) u192000 x192000_1) ∧ Aside0 (w'.heap[gb190]? = some (.cells #[(.slice none 0 0), .int .i64 0] 26 (0, 0))) ∧ Aside0 (w'.heap[gb191]? = some (.cells #[u192000, .int .i64 x192001_1] 26 (0, 0))) ∧ Aside0 (Below w.heap.size w w'))
 case atStart => exact ⟨(0), (([] : List (S35))), (0), (.slice none 0 0), (by first | rfl | (simp; done) | (simp [*]; done)), H', ⟨Nat.le_refl _⟩, ⟨by first | exact Kd.R_nil _ _ _ _ _ | exact Kd.N_nil _ _ _ _ _ | exact Kd.V_nil _ _ _ _ _ | exact Kd.Q_nil _ _ _ _ _ | exact Kd.S_nil _ _ _ _ _⟩, ⟨by (with_reducible repeat (first | refine blk_drewN ?_ _ | refine blk_drew ?_ | refine blk_alloc ?_ _)); refine blk_far ?_ NB190_191.out _; (with_reducible repeat (first | refine blk_drewN ?_ _ | refine blk_drew ?_ | refine blk_alloc ?_ _)); refine blk_far ?_ NB190_191.out _; (with_reducible repeat (first | refine blk_drewN ?_ _ | refine blk_drew ?_ | refine blk_alloc ?_ _)); exact BK190.out⟩, ⟨by (with_reducible repeat (first | refine blk_drewN ?_ _ | refine blk_drew ?_ | refine blk_alloc ?_ _)); refine blk_put (cs := #[.slice none 0 0, .int .i64 0]) ?_ 1 _ rfl; (with_reducible repeat (first | refine blk_drewN ?_ _ | refine blk_drew ?_ | refine blk_alloc ?_ _)); refine blk_put (cs := #[.slice none 0 0, .int .i64 0]) ?_ 0 _ rfl; (with_reducible repeat (first | refine blk_drewN ?_ _ | refine blk_drew ?_ | refine blk_alloc ?_ _)); exact BK191.out⟩, ⟨by repeat (first | (with_reducible first | exact HB.out | apply below_alloc | apply pw_below_drewN | apply below_drew1 | refine below_set ?_ GE190.out | refine below_set ?_ GE191.out) | exact HB.out)⟩⟩
 case round =>
  clear H'
  try clear p2
  try clear c4
  try clear hcz5_0
  try clear hcz5_1
  try clear hfz5_0
  try clear hfz5_1
  obtain ⟨x4_1, x192000_1, x192001_1, u192000, rfl, HA, HK1, HO_192000, BK190, BK191, HB⟩ := hrel
  cases gk with
  | zero => exact absurd HA.out (by simp [heronrylaw09_grown.l0])
  | succ k1 =>
   have H := HA.out
   clear HA
   simp only [heronrylaw09_grown.l0] at H
   by_cases c6 : x4_1 < (l0.length : Int)
   ·rw [if_pos c6] at H
    have c6b0 : decide (x4_1 < (l0.length : Int)) = true := decide_eq_true c6
    clear c6
    have HC7 := Aside0.mk H
    clear H
    have hnb8 := NB191_190.out
    have hnc8 := NB190_191.out
    have hcz9_0 : wr.cell? ⟨gb191, 0, none⟩ = some (u192000) := (blk_cell BK191.out 0).trans rfl
    have hcz9_1 : wr.cell? ⟨gb191, 1, none⟩ = some (.int .i64 x192001_1) := (blk_cell BK191.out 1).trans rfl
    have hfz9_0 := blk_frozen BK191.out 0
    have hfz9_1 := blk_frozen BK191.out 1
    obtain ⟨Ao10, co10, eo10⟩ := Kd.R_slice HO_192000.out
    subst eo10
    go_upto_if 26 with (fail)
    go_cut [6, 26] (fun v6 v26 wc => ∃ (kq : Nat) (x6_6 : Int) (x26 : Bool), v26 = .bool x26 ∧ v6 = .int .i64 x6_6 ∧ Aside0 (heronrylaw09_grown.j1 kq l0 x4_1 x6_6 x192000_1 x192001_1 = some (r1, r2)) ∧ Aside0 (kq ≤ k1) ∧ Aside0 (Kd.R k35 35 wc w.heap.size (fun _ => True) (.slice Ao10 x192000_1.length co10) x192000_1) ∧ Aside0 (wc.heap[gb190]? = some (.cells #[(.slice none 0 0), .int .i64 0] 26 (0, 0))) ∧ Aside0 (wc.heap[gb191]? = some (.cells #[(.slice Ao10 x192000_1.length co10), .int .i64 x192001_1] 26 (0, 0))) ∧ Aside0 (Below w.heap.size w wc))
    case first =>
     have H := HC7.out
     clear HC7
     by_cases c11 : (x192000_1.length : Int) > 0
     ·rw [if_pos c11] at H
      have c11b0 : decide (0 < (x192000_1.length : Int)) = true := decide_eq_true c11
      have c11b1 : decide (0 < x192000_1.length) = true := decide_eq_true (by omega)
      clear c11
      (first | rw [c11b0] | rw [c11b1] | (simp only [i64_w, i32_w]; rw [c11b0]) | skip)
      by_cases c12 : 0 ≤ x4_1
      ·rw [if_pos c12] at H
       have c12b0 : decide (0 ≤ x4_1) = true := decide_eq_true c12
       clear c12
       by_cases c13 : (wrap64 ((x192000_1.length : Int) + 1)) = 0
       ·rw [if_pos c13] at H
        exact absurd H (by simp)
       ·rw [if_neg c13] at H
        have c13b0 : ((wrap64 ((x192000_1.length : Int) + 1)) == 0) = false := beq_eq_false_iff_ne.mpr c13
        have c13b1 : ((wrap64 ((x192000_1.length : Int) + 1)) != 0) = true := bne_iff_ne.mpr c13
        have H' := Aside0.mk H
        clear H
        have p192 : 0 ≤ (x4_1 : Int) := of_decide_eq_true (by first | (with_reducible assumption) | assumption)
        have q192 : x4_1 < (l0.length : Int) := of_decide_eq_true (by first | (with_reducible assumption) | assumption)
        obtain ⟨ad192, e192, hx192_0, hx192_1⟩ := at_T47 HR0.out x4_1 p192 q192
        cases e192
        replace hx192_0 := (HB.out.cell (World.block_lt_of_cell? w _ hx192_0)).trans hx192_0
        replace hx192_1 := (HB.out.cell (World.block_lt_of_cell? w _ hx192_1)).trans hx192_1
        replace p192 := eq_true p192
        replace q192 := eq_true q192
        go_wp2
        go_meet
        case rel => exact ⟨_, (wrap64 ((Int.tmod (Go.bits .and .i64 ((rd_T47 l0 x4_1).f1) 65535) (wrap64 ((x192000_1.length : Int) + 1))) - 1)), _, rfl, (by first | rfl | (simp; done) | (simp [*]; done)), H', ⟨by have := HK1.out; first | omega | exact Nat.le_refl _⟩, ⟨by (with_reducible repeat (first | apply Kd.R_alloc | apply Kd.R_drewN | apply Kd.R_drew)); exact HO_192000.out⟩, ⟨by (with_reducible repeat (first | refine blk_drewN ?_ _ | refine blk_drew ?_ | refine blk_alloc ?_ _)); exact BK190.out⟩, ⟨by (with_reducible repeat (first | refine blk_drewN ?_ _ | refine blk_drew ?_ | refine blk_alloc ?_ _)); exact BK191.out⟩, ⟨by repeat (first | (with_reducible first | exact HB.out | apply below_alloc | apply pw_below_drewN | apply below_drew1 | refine below_set ?_ GE190.out | refine below_set ?_ GE191.out) | exact HB.out)⟩⟩
      ·rw [if_neg c12] at H
       exact absurd H (by simp)
     ·rw [if_neg c11] at H
      have c11b0 : decide (0 < (x192000_1.length : Int)) = false := decide_eq_false c11
      have c11b1 : decide (0 < x192000_1.length) = false := decide_eq_false (by omega)
      clear c11
      (first | rw [c11b0] | rw [c11b1] | (simp only [i64_w, i32_w]; rw [c11b0]) | skip)
      have H' := Aside0.mk H
      clear H
      go_wp2
      go_meet
      case rel => exact ⟨_, ((-1)), _, rfl, (by first | rfl | (simp; done) | (simp [*]; done)), H', ⟨by have := HK1.out; first | omega | exact Nat.le_refl _⟩, ⟨by (with_reducible repeat (first | apply Kd.R_alloc | apply Kd.R_drewN | apply Kd.R_drew)); exact HO_192000.out⟩, ⟨by (with_reducible repeat (first | refine blk_drewN ?_ _ | refine blk_drew ?_ | refine blk_alloc ?_ _)); exact BK190.out⟩, ⟨by (with_reducible repeat (first | refine blk_drewN ?_ _ | refine blk_drew ?_ | refine blk_alloc ?_ _)); exact BK191.out⟩, ⟨by repeat (first | (with_reducible first | exact HB.out | apply below_alloc | apply pw_below_drewN | apply below_drew1 | refine below_set ?_ GE190.out | refine below_set ?_ GE191.out) | exact HB.out)⟩⟩
    case rest =>
     clear HC7
     try clear c1
     try clear p1
     try clear q1
     try clear hx1
     try clear p2
     try clear c4
     try clear c6
     try clear c6b0
     try clear p6
     try clear c8
     try clear c9
     try clear c11
     try clear c11b0
     try clear c11b1
     try clear c12
     try clear c12b0
     try clear c13
     try clear c13b0
     try clear c13b1
     try clear hcz5_0
     try clear hcz5_1
     try clear hcz9_0
     try clear hcz9_1
     try clear hfz5_0
     try clear hfz5_1
     try clear hfz9_0
     try clear hfz9_1
     try clear hx192_0
     try clear hx192_1
     try clear p192
     try clear p2
     try clear q192
     obtain ⟨kq, x6_6, x26, rfl, rfl, HA, HJ6, HO_192000, BK190, BK191, HB⟩ := hcut
     cases kq with
     | zero => exact absurd HA.out (by simp [heronrylaw09_grown.j1])
     | succ kj6 =>
      have H := HA.out
      clear HA
      simp only [heronrylaw09_grown.j1] at H
      by_cases c14 : 0 ≤ x4_1
      ·rw [if_pos c14] at H
       have c14b0 : decide (0 ≤ x4_1) = true := decide_eq_true c14
       clear c14
       by_cases c15 : x4_1 < (l0.length : Int)
       ·rw [if_pos c15] at H
        have c15b0 : decide (x4_1 < (l0.length : Int)) = true := decide_eq_true c15
        clear c15
        have HC16 := Aside0.mk H
        clear H
        have p193 : 0 ≤ (x4_1 : Int) := of_decide_eq_true (by first | (with_reducible assumption) | assumption)
        have q193 : x4_1 < (l0.length : Int) := of_decide_eq_true (by first | (with_reducible assumption) | assumption)
        obtain ⟨ad193, e193, hx193_0, hx193_1⟩ := at_T47 HR0.out x4_1 p193 q193
        cases e193
        replace hx193_0 := (HB.out.cell (World.block_lt_of_cell? w _ hx193_0)).trans hx193_0
        replace hx193_1 := (HB.out.cell (World.block_lt_of_cell? w _ hx193_1)).trans hx193_1
        replace p193 := eq_true p193
        replace q193 := eq_true q193
        go_upto_if 42 with (fail)
        go_cut [42] (fun v42 wc => ∃ (kq : Nat) (x42_15 : Bool), v42 = .bool x42_15 ∧ Aside0 (heronrylaw09_grown.j2 kq l0 x4_1 x6_6 ((rd_T47 l0 x4_1).f0) x42_15 x192000_1 x192001_1 = some (r1, r2)) ∧ Aside0 (kq ≤ kj6) ∧ Aside0 (Kd.R k35 35 wc w.heap.size (fun _ => True) (.slice Ao10 x192000_1.length co10) x192000_1) ∧ Aside0 (wc.heap[gb190]? = some (.cells #[(.slice none 0 0), .int .i64 0] 26 (0, 0))) ∧ Aside0 (wc.heap[gb191]? = some (.cells #[(.slice Ao10 x192000_1.length co10), .int .i64 x192001_1] 26 (0, 0))) ∧ Aside0 (Below w.heap.size w wc))
        case first =>
         have H := HC16.out
         clear HC16
         by_cases c17 : ((rd_T47 l0 x4_1).f0) = 0
         ·rw [if_pos c17] at H
          have c17b0 : (((rd_T47 l0 x4_1).f0) == 0) = true := beq_iff_eq.mpr c17
          have c17b1 : (((rd_T47 l0 x4_1).f0) != 0) = false := bne_eq_false_iff_eq.mpr c17
          clear c17
          (first | rw [c17b0] | (simp only [i64_w, i32_w]; rw [c17b0]) | skip)
          have H' := Aside0.mk H
          clear H
          go_wp2
          go_meet
          case rel => exact ⟨_, ((((rd_T47 l0 x4_1).f0) == 0)), (by first | rfl | (simp; done) | (simp [*]; done)), H', ⟨by have := HK1.out; have := HJ6.out; first | omega | exact Nat.le_refl _⟩, ⟨by (with_reducible repeat (first | apply Kd.R_alloc | apply Kd.R_drewN | apply Kd.R_drew)); exact HO_192000.out⟩, ⟨by (with_reducible repeat (first | refine blk_drewN ?_ _ | refine blk_drew ?_ | refine blk_alloc ?_ _)); exact BK190.out⟩, ⟨by (with_reducible repeat (first | refine blk_drewN ?_ _ | refine blk_drew ?_ | refine blk_alloc ?_ _)); exact BK191.out⟩, ⟨by repeat (first | (with_reducible first | exact HB.out | apply below_alloc | apply pw_below_drewN | apply below_drew1 | refine below_set ?_ GE190.out | refine below_set ?_ GE191.out) | exact HB.out)⟩⟩
         ·rw [if_neg c17] at H
          have c17b0 : (((rd_T47 l0 x4_1).f0) == 0) = false := beq_eq_false_iff_ne.mpr c17
          have c17b1 : (((rd_T47 l0 x4_1).f0) != 0) = true := bne_iff_ne.mpr c17
          (first | rw [c17b0] | (simp only [i64_w, i32_w]; rw [c17b0]) | skip)
          have H' := Aside0.mk H
          clear H
          go_wp2
          go_meet
          case rel => exact ⟨_, ((((rd_T47 l0 x4_1).f0) == 1)), (by first | rfl | (simp; done) | (simp [*]; done)), H', ⟨by have := HK1.out; have := HJ6.out; first | omega | exact Nat.le_refl _⟩, ⟨by (with_reducible repeat (first | apply Kd.R_alloc | apply Kd.R_drewN | apply Kd.R_drew)); exact HO_192000.out⟩, ⟨by (with_reducible repeat (first | refine blk_drewN ?_ _ | refine blk_drew ?_ | refine blk_alloc ?_ _)); exact BK190.out⟩, ⟨by (with_reducible repeat (first | refine blk_drewN ?_ _ | refine blk_drew ?_ | refine blk_alloc ?_ _)); exact BK191.out⟩, ⟨by repeat (first | (with_reducible first | exact HB.out | apply below_alloc | apply pw_below_drewN | apply below_drew1 | refine below_set ?_ GE190.out | refine below_set ?_ GE191.out) | exact HB.out)⟩⟩
        case rest =>
         clear HC16
         try clear c1
         try clear p1
         try clear q1
         try clear hx1
         try clear p2
         try clear c4
         try clear c6
         try clear c6b0
         try clear p6
         try clear c8
         try clear c9
         try clear c11
         try clear c11b0
         try clear c11b1
         try clear c12
         try clear c12b0
         try clear c13
         try clear c13b0
         try clear c13b1
         try clear c14
         try clear c14b0
         try clear c15
         try clear c15b0
         try clear c17
         try clear c17b0
         try clear c17b1
         try clear hcz5_0
         try clear hcz5_1
         try clear hcz9_0
         try clear hcz9_1
         try clear hfz5_0
         try clear hfz5_1
         try clear hfz9_0
         try clear hfz9_1
         try clear hx192_0
         try clear hx192_1
         try clear hx193_0
         try clear hx193_1
         try clear p1
         try clear p192
         try clear p193
         try clear p2
         try clear p6
         try clear q1
         try clear q192
         try clear q193
         obtain ⟨kq, x42_15, rfl, HA, HJ15, HO_192000, BK190, BK191, HB⟩ := hcut
         cases kq with
         | zero => exact absurd HA.out (by simp [heronrylaw09_grown.j2])
         | succ kj15 =>
          have H := HA.out
          clear HA
          simp only [heronrylaw09_grown.j2] at H
          by_cases c18 : x42_15 = true
          ·subst c18
           have H1 : ((tree_Begin.f kj15 x192000_1 x192001_1 x6_6).bind fun bt194 => (if bt194.2.2.2 = 0 then (heronrylaw09_grown.l0 kj15 l0 (wrap64 (x4_1 + 1)) bt194.1 bt194.2.1) else (heronrylaw09_grown.l0 kj15 l0 (wrap64 (x4_1 + 1)) x192000_1 x192001_1))) = some (r1, r2) := by rw [if_pos rfl] at H; exact H
           clear H
           have H := H1
           clear H1
           replace H := Option.bind_eq_some_iff.mp H
           obtain ⟨⟨t194, t197, t198, t199⟩, A190, H⟩ := H
           replace H : (if t199 = 0 then (heronrylaw09_grown.l0 kj15 l0 (wrap64 (x4_1 + 1)) t194 t197) else (heronrylaw09_grown.l0 kj15 l0 (wrap64 (x4_1 + 1)) x192000_1 x192001_1)) = some (r1, r2) := H
           have A19 := Aside0.mk A190
           clear A190
           by_cases c20 : t199 = 0
           ·rw [if_pos c20] at H
            have c20b0 : (t199 == 0) = true := beq_iff_eq.mpr c20
            have c20b1 : (t199 != 0) = false := bne_eq_false_iff_eq.mpr c20
            clear c20
            have H' := Aside0.mk H
            clear H
            have hnb21 := NB191_190.out
            have hnc21 := NB190_191.out
            have hcz22_0 : wc.cell? ⟨gb191, 0, none⟩ = some (.slice Ao10 x192000_1.length co10) := (blk_cell BK191.out 0).trans rfl
            have hcz22_1 : wc.cell? ⟨gb191, 1, none⟩ = some (.int .i64 x192001_1) := (blk_cell BK191.out 1).trans rfl
            have hfz22_0 := blk_frozen BK191.out 0
            have hfz22_1 := blk_frozen BK191.out 1
            go_wp2_with (first | ((with_reducible refine gate_callee (f := 15) rfl ?_); refine goesL_ (some 48) rfl rfl Try.func15 (by kernel_rfl) rfl #[.agg #[.slice Ao10 x192000_1.length co10, .int .i64 x192001_1], .int .i64 x6_6] rfl (by (try simp only [List.map_toArray, List.map_cons, List.map_nil]); first | done | rfl | (simp only [List.length_drop, List.length_take]; rfl)) ?_; (with_reducible refine (tree_Begin.calls kj15 _ _ x192000_1 x192001_1 x6_6 t194 t197 t198 t199 _ ?side1 ?side2 A19.out).mono ?_); (case side1 => repeat (first | exact (Kd.R_reads' HO_192000.out).2.2 | (with_reducible refine Kd.C_alloc ?_ _) | (with_reducible refine Kd.C_drewN ?_ _) | (with_reducible refine Kd.C_drew ?_))); (case side2 => exact (Kd.R_reads' HO_192000.out).2.1); rintro e w23 ⟨v195, rfl, ho0, hb⟩; refine ⟨_, rfl, ?_⟩; have n0_ := Aside0.mk (Kd.R_elder' (by (with_reducible repeat (first | apply Kd.R_alloc | apply Kd.R_drewN | apply Kd.R_drew)); exact HO_192000.out) (Kd.R_base ho0) hb); have n1_ := Aside0.mk (Kd.R_lower (Kd.R_new' ho0 (Kd.R_lt (by (with_reducible repeat (first | apply Kd.R_alloc | apply Kd.R_drewN | apply Kd.R_drew)); exact HO_192000.out))) (below_size (by repeat (first | (with_reducible first | exact HB.out | apply below_alloc | apply pw_below_drewN | apply below_drew1 | refine below_set ?_ GE190.out | refine below_set ?_ GE191.out) | exact HB.out)))); have n2_ := Aside0.mk (blk_below (g := gb190) (o := .cells #[.slice none 0 0, .int .i64 0] 26 (0, 0)) (by (with_reducible repeat (first | refine blk_drewN ?_ _ | refine blk_drew ?_ | refine blk_alloc ?_ _)); exact BK190.out) hb); have n3_ := Aside0.mk (blk_below (g := gb191) (o := .cells #[.slice Ao10 x192000_1.length co10, .int .i64 x192001_1] 26 (0, 0)) (by (with_reducible repeat (first | refine blk_drewN ?_ _ | refine blk_drew ?_ | refine blk_alloc ?_ _)); exact BK191.out) hb); have n4_ := Aside0.mk (below_step (by repeat (first | (with_reducible first | exact HB.out | apply below_alloc | apply pw_below_drewN | apply below_drew1 | refine below_set ?_ GE190.out | refine below_set ?_ GE191.out) | exact HB.out)) hb); clear HO_192000; clear BK190; clear BK191; clear HB; have HO_192000 := n0_; have HO196 := n1_; have BK190 := n2_; have BK191 := n3_; have HB := n4_; clear n0_ n1_ n2_ n3_ n4_; (try clear hb); (try clear hb2); (try clear hk); (try clear hi); (try clear ho0)) | ((with_reducible refine gate_dst (N := 7) rfl ?_); refine box_event ?hg (N := 7) ?hd (cs := #[.slice none 0 0, .int .i64 0]) (t := 26) ?hr ?_; (case hd => rfl); (case hg => rfl); (case hr => first | (go_simp; done) | (go_simp; rfl)); intro gb200 hg w24 hbox hb; have n0_ := Aside0.mk (Kd.R_below (by (with_reducible repeat (first | apply Kd.R_alloc | apply Kd.R_drewN | apply Kd.R_drew)); exact HO_192000.out) hb); have n1_ := Aside0.mk (Kd.R_below (by (with_reducible repeat (first | apply Kd.R_alloc | apply Kd.R_drewN | apply Kd.R_drew)); exact HO196.out) hb); have n2_ := Aside0.mk (blk_below (g := gb190) (o := .cells #[.slice none 0 0, .int .i64 0] 26 (0, 0)) (by (with_reducible repeat (first | refine blk_drewN ?_ _ | refine blk_drew ?_ | refine blk_alloc ?_ _)); exact BK190.out) hb); have n3_ := Aside0.mk (blk_below (g := gb191) (o := .cells #[.slice Ao10 x192000_1.length co10, .int .i64 x192001_1] 26 (0, 0)) (by (with_reducible repeat (first | refine blk_drewN ?_ _ | refine blk_drew ?_ | refine blk_alloc ?_ _)); exact BK191.out) hb); have n4_ := Aside0.mk (below_step (by repeat (first | (with_reducible first | exact HB.out | apply below_alloc | apply pw_below_drewN | apply below_drew1 | refine below_set ?_ GE190.out | refine below_set ?_ GE191.out) | exact HB.out)) hb); have n5_ := Aside0.mk (hbox); have n6_ := Aside0.mk ((by rw [hg]; exact (below_size (by repeat (first | (with_reducible first | exact HB.out | apply below_alloc | apply pw_below_drewN | apply below_drew1 | refine below_set ?_ GE190.out | refine below_set ?_ GE191.out) | exact HB.out))) : w.heap.size ≤ gb200)); have n7_ := Aside0.mk ((by rw [hg]; exact (below_size (by repeat (first | (with_reducible first | exact HB.out | apply below_alloc | apply pw_below_drewN | apply below_drew1 | refine below_set ?_ GE190.out | refine below_set ?_ GE191.out) | exact HB.out))) : w.heap.size ≤ gb200)); have n8_ := Aside0.mk ((by rw [hg]; exact Nat.ne_of_lt (blk_lt (g := gb190) (o := .cells #[.slice none 0 0, .int .i64 0] 26 (0, 0)) (by (with_reducible repeat (first | refine blk_drewN ?_ _ | refine blk_drew ?_ | refine blk_alloc ?_ _)); exact BK190.out)) : gb190 ≠ gb200)); have n9_ := Aside0.mk ((by rw [hg]; exact Nat.ne_of_gt (blk_lt (g := gb190) (o := .cells #[.slice none 0 0, .int .i64 0] 26 (0, 0)) (by (with_reducible repeat (first | refine blk_drewN ?_ _ | refine blk_drew ?_ | refine blk_alloc ?_ _)); exact BK190.out)) : gb200 ≠ gb190)); have n10_ := Aside0.mk ((by rw [hg]; exact Nat.ne_of_lt (blk_lt (g := gb191) (o := .cells #[.slice Ao10 x192000_1.length co10, .int .i64 x192001_1] 26 (0, 0)) (by (with_reducible repeat (first | refine blk_drewN ?_ _ | refine blk_drew ?_ | refine blk_alloc ?_ _)); exact BK191.out)) : gb191 ≠ gb200)); have n11_ := Aside0.mk ((by rw [hg]; exact Nat.ne_of_gt (blk_lt (g := gb191) (o := .cells #[.slice Ao10 x192000_1.length co10, .int .i64 x192001_1] 26 (0, 0)) (by (with_reducible repeat (first | refine blk_drewN ?_ _ | refine blk_drew ?_ | refine blk_alloc ?_ _)); exact BK191.out)) : gb200 ≠ gb191)); clear HO_192000; clear HO196; clear BK190; clear BK191; clear HB; have HO_192000 := n0_; have HO196 := n1_; have BK190 := n2_; have BK191 := n3_; have HB := n4_; have BK200 := n5_; have GW200 := n6_; have GE200 := n7_; have NB190_200 := n8_; have NB200_190 := n9_; have NB191_200 := n10_; have NB200_191 := n11_; clear n0_ n1_ n2_ n3_ n4_ n5_ n6_ n7_ n8_ n9_ n10_ n11_; clear hb hbox hg; obtain ⟨Ao25, co25, eo25⟩ := Kd.R_slice HO196.out; subst eo25; have hnb26 := NB200_190.out; have hnc26 := NB190_200.out; have hnb27 := NB200_191.out; have hnc27 := NB191_200.out; have hcz28_0 : w24.cell? ⟨gb200, 0, none⟩ = some (.slice none 0 0) := (blk_cell BK200.out 0).trans rfl; have hcz28_1 : w24.cell? ⟨gb200, 1, none⟩ = some (.int .i64 0) := (blk_cell BK200.out 1).trans rfl; have hfz28_0 := blk_frozen BK200.out 0; have hfz28_1 := blk_frozen BK200.out 1; have hcz29_0 : w24.cell? ⟨gb191, 0, none⟩ = some (.slice Ao10 x192000_1.length co10) := (blk_cell BK191.out 0).trans rfl; have hcz29_1 : w24.cell? ⟨gb191, 1, none⟩ = some (.int .i64 x192001_1) := (blk_cell BK191.out 1).trans rfl; have hfz29_0 := blk_frozen BK191.out 0; have hfz29_1 := blk_frozen BK191.out 1))
            go_roundg kj15
            case measure => have := HK1.out; have := HJ6.out; have := HJ15.out; omega
            case rel => exact ⟨(wrap64 (x4_1 + 1)), (t194), (t197), (.slice Ao25 t194.length co25), (by first | rfl | (simp; done) | (simp [*]; done)), H', ⟨by have := HK1.out; have := HJ6.out; have := HJ15.out; omega⟩, ⟨by (with_reducible repeat (first | apply Kd.R_alloc | apply Kd.R_drewN | apply Kd.R_drew)); exact Kd.R_mono (Kd.R_far (p := ⟨gb191, 1, none⟩) (Kd.R_far (p := ⟨gb191, 0, none⟩) (Kd.R_far (p := ⟨gb200, 1, none⟩) (Kd.R_far (p := ⟨gb200, 0, none⟩) (Kd.R_types (Kd.R_types HO196.out BK200.out (by decide)) BK191.out (by decide)) (fun _ hk => hk.1.2) (.slice Ao25 t194.length co25)) (fun _ hk => hk.1.2) (.int .i64 t197)) (fun _ hk => hk.2) (.slice Ao25 t194.length co25)) (fun _ hk => hk.2) (.int .i64 t197)) (fun _ hk => trivial)⟩, ⟨by (with_reducible repeat (first | refine blk_drewN ?_ _ | refine blk_drew ?_ | refine blk_alloc ?_ _)); refine blk_far ?_ NB190_191.out _; (with_reducible repeat (first | refine blk_drewN ?_ _ | refine blk_drew ?_ | refine blk_alloc ?_ _)); refine blk_far ?_ NB190_191.out _; (with_reducible repeat (first | refine blk_drewN ?_ _ | refine blk_drew ?_ | refine blk_alloc ?_ _)); refine blk_far ?_ NB190_200.out _; (with_reducible repeat (first | refine blk_drewN ?_ _ | refine blk_drew ?_ | refine blk_alloc ?_ _)); refine blk_far ?_ NB190_200.out _; (with_reducible repeat (first | refine blk_drewN ?_ _ | refine blk_drew ?_ | refine blk_alloc ?_ _)); exact BK190.out⟩, ⟨by (with_reducible repeat (first | refine blk_drewN ?_ _ | refine blk_drew ?_ | refine blk_alloc ?_ _)); refine blk_put (cs := #[.slice Ao25 t194.length co25, .int .i64 x192001_1]) ?_ 1 _ rfl; (with_reducible repeat (first | refine blk_drewN ?_ _ | refine blk_drew ?_ | refine blk_alloc ?_ _)); refine blk_put (cs := #[.slice Ao10 x192000_1.length co10, .int .i64 x192001_1]) ?_ 0 _ rfl; (with_reducible repeat (first | refine blk_drewN ?_ _ | refine blk_drew ?_ | refine blk_alloc ?_ _)); refine blk_far ?_ NB191_200.out _; (with_reducible repeat (first | refine blk_drewN ?_ _ | refine blk_drew ?_ | refine blk_alloc ?_ _)); refine blk_far ?_ NB191_200.out _; (with_reducible repeat (first | refine blk_drewN ?_ _ | refine blk_drew ?_ | refine blk_alloc ?_ _)); exact BK191.out⟩, ⟨by repeat (first | (with_reducible first | exact HB.out | apply below_alloc | apply pw_below_drewN | apply below_drew1 | refine below_set ?_ GE190.out | refine below_set ?_ GE191.out | refine below_set ?_ GE200.out) | exact HB.out)⟩⟩
           ·rw [if_neg c20] at H
            have c20b0 : (t199 == 0) = false := beq_eq_false_iff_ne.mpr c20
            have c20b1 : (t199 != 0) = true := bne_iff_ne.mpr c20
            have H' := Aside0.mk H
            clear H
            have hnb30 := NB191_190.out
            have hnc30 := NB190_191.out
            have hcz31_0 : wc.cell? ⟨gb191, 0, none⟩ = some (.slice Ao10 x192000_1.length co10) := (blk_cell BK191.out 0).trans rfl
            have hcz31_1 : wc.cell? ⟨gb191, 1, none⟩ = some (.int .i64 x192001_1) := (blk_cell BK191.out 1).trans rfl
            have hfz31_0 := blk_frozen BK191.out 0
            have hfz31_1 := blk_frozen BK191.out 1
            go_wp2_with (first | ((with_reducible refine gate_callee (f := 15) rfl ?_); refine goesL_ (some 48) rfl rfl Try.func15 (by kernel_rfl) rfl #[.agg #[.slice Ao10 x192000_1.length co10, .int .i64 x192001_1], .int .i64 x6_6] rfl (by (try simp only [List.map_toArray, List.map_cons, List.map_nil]); first | done | rfl | (simp only [List.length_drop, List.length_take]; rfl)) ?_; (with_reducible refine (tree_Begin.calls kj15 _ _ x192000_1 x192001_1 x6_6 t194 t197 t198 t199 _ ?side1 ?side2 A19.out).mono ?_); (case side1 => repeat (first | exact (Kd.R_reads' HO_192000.out).2.2 | (with_reducible refine Kd.C_alloc ?_ _) | (with_reducible refine Kd.C_drewN ?_ _) | (with_reducible refine Kd.C_drew ?_))); (case side2 => exact (Kd.R_reads' HO_192000.out).2.1); rintro e w32 ⟨v195, rfl, ho0, hb⟩; refine ⟨_, rfl, ?_⟩; have n0_ := Aside0.mk (Kd.R_elder' (by (with_reducible repeat (first | apply Kd.R_alloc | apply Kd.R_drewN | apply Kd.R_drew)); exact HO_192000.out) (Kd.R_base ho0) hb); have n1_ := Aside0.mk (Kd.R_lower (Kd.R_new' ho0 (Kd.R_lt (by (with_reducible repeat (first | apply Kd.R_alloc | apply Kd.R_drewN | apply Kd.R_drew)); exact HO_192000.out))) (below_size (by repeat (first | (with_reducible first | exact HB.out | apply below_alloc | apply pw_below_drewN | apply below_drew1 | refine below_set ?_ GE190.out | refine below_set ?_ GE191.out) | exact HB.out)))); have n2_ := Aside0.mk (blk_below (g := gb190) (o := .cells #[.slice none 0 0, .int .i64 0] 26 (0, 0)) (by (with_reducible repeat (first | refine blk_drewN ?_ _ | refine blk_drew ?_ | refine blk_alloc ?_ _)); exact BK190.out) hb); have n3_ := Aside0.mk (blk_below (g := gb191) (o := .cells #[.slice Ao10 x192000_1.length co10, .int .i64 x192001_1] 26 (0, 0)) (by (with_reducible repeat (first | refine blk_drewN ?_ _ | refine blk_drew ?_ | refine blk_alloc ?_ _)); exact BK191.out) hb); have n4_ := Aside0.mk (below_step (by repeat (first | (with_reducible first | exact HB.out | apply below_alloc | apply pw_below_drewN | apply below_drew1 | refine below_set ?_ GE190.out | refine below_set ?_ GE191.out) | exact HB.out)) hb); clear HO_192000; clear BK190; clear BK191; clear HB; have HO_192000 := n0_; have HO196 := n1_; have BK190 := n2_; have BK191 := n3_; have HB := n4_; clear n0_ n1_ n2_ n3_ n4_; (try clear hb); (try clear hb2); (try clear hk); (try clear hi); (try clear ho0)) | ((with_reducible refine gate_dst (N := 7) rfl ?_); refine box_event ?hg (N := 7) ?hd (cs := #[.slice none 0 0, .int .i64 0]) (t := 26) ?hr ?_; (case hd => rfl); (case hg => rfl); (case hr => first | (go_simp; done) | (go_simp; rfl)); intro gb200 hg w33 hbox hb; have n0_ := Aside0.mk (Kd.R_below (by (with_reducible repeat (first | apply Kd.R_alloc | apply Kd.R_drewN | apply Kd.R_drew)); exact HO_192000.out) hb); have n1_ := Aside0.mk (Kd.R_below (by (with_reducible repeat (first | apply Kd.R_alloc | apply Kd.R_drewN | apply Kd.R_drew)); exact HO196.out) hb); have n2_ := Aside0.mk (blk_below (g := gb190) (o := .cells #[.slice none 0 0, .int .i64 0] 26 (0, 0)) (by (with_reducible repeat (first | refine blk_drewN ?_ _ | refine blk_drew ?_ | refine blk_alloc ?_ _)); exact BK190.out) hb); have n3_ := Aside0.mk (blk_below (g := gb191) (o := .cells #[.slice Ao10 x192000_1.length co10, .int .i64 x192001_1] 26 (0, 0)) (by (with_reducible repeat (first | refine blk_drewN ?_ _ | refine blk_drew ?_ | refine blk_alloc ?_ _)); exact BK191.out) hb); have n4_ := Aside0.mk (below_step (by repeat (first | (with_reducible first | exact HB.out | apply below_alloc | apply pw_below_drewN | apply below_drew1 | refine below_set ?_ GE190.out | refine below_set ?_ GE191.out) | exact HB.out)) hb); have n5_ := Aside0.mk (hbox); have n6_ := Aside0.mk ((by rw [hg]; exact (below_size (by repeat (first | (with_reducible first | exact HB.out | apply below_alloc | apply pw_below_drewN | apply below_drew1 | refine below_set ?_ GE190.out | refine below_set ?_ GE191.out) | exact HB.out))) : w.heap.size ≤ gb200)); have n7_ := Aside0.mk ((by rw [hg]; exact (below_size (by repeat (first | (with_reducible first | exact HB.out | apply below_alloc | apply pw_below_drewN | apply below_drew1 | refine below_set ?_ GE190.out | refine below_set ?_ GE191.out) | exact HB.out))) : w.heap.size ≤ gb200)); have n8_ := Aside0.mk ((by rw [hg]; exact Nat.ne_of_lt (blk_lt (g := gb190) (o := .cells #[.slice none 0 0, .int .i64 0] 26 (0, 0)) (by (with_reducible repeat (first | refine blk_drewN ?_ _ | refine blk_drew ?_ | refine blk_alloc ?_ _)); exact BK190.out)) : gb190 ≠ gb200)); have n9_ := Aside0.mk ((by rw [hg]; exact Nat.ne_of_gt (blk_lt (g := gb190) (o := .cells #[.slice none 0 0, .int .i64 0] 26 (0, 0)) (by (with_reducible repeat (first | refine blk_drewN ?_ _ | refine blk_drew ?_ | refine blk_alloc ?_ _)); exact BK190.out)) : gb200 ≠ gb190)); have n10_ := Aside0.mk ((by rw [hg]; exact Nat.ne_of_lt (blk_lt (g := gb191) (o := .cells #[.slice Ao10 x192000_1.length co10, .int .i64 x192001_1] 26 (0, 0)) (by (with_reducible repeat (first | refine blk_drewN ?_ _ | refine blk_drew ?_ | refine blk_alloc ?_ _)); exact BK191.out)) : gb191 ≠ gb200)); have n11_ := Aside0.mk ((by rw [hg]; exact Nat.ne_of_gt (blk_lt (g := gb191) (o := .cells #[.slice Ao10 x192000_1.length co10, .int .i64 x192001_1] 26 (0, 0)) (by (with_reducible repeat (first | refine blk_drewN ?_ _ | refine blk_drew ?_ | refine blk_alloc ?_ _)); exact BK191.out)) : gb200 ≠ gb191)); clear HO_192000; clear HO196; clear BK190; clear BK191; clear HB; have HO_192000 := n0_; have HO196 := n1_; have BK190 := n2_; have BK191 := n3_; have HB := n4_; have BK200 := n5_; have GW200 := n6_; have GE200 := n7_; have NB190_200 := n8_; have NB200_190 := n9_; have NB191_200 := n10_; have NB200_191 := n11_; clear n0_ n1_ n2_ n3_ n4_ n5_ n6_ n7_ n8_ n9_ n10_ n11_; clear hb hbox hg; obtain ⟨Ao34, co34, eo34⟩ := Kd.R_slice HO196.out; subst eo34; have hnb35 := NB200_190.out; have hnc35 := NB190_200.out; have hnb36 := NB200_191.out; have hnc36 := NB191_200.out; have hcz37_0 : w33.cell? ⟨gb200, 0, none⟩ = some (.slice none 0 0) := (blk_cell BK200.out 0).trans rfl; have hcz37_1 : w33.cell? ⟨gb200, 1, none⟩ = some (.int .i64 0) := (blk_cell BK200.out 1).trans rfl; have hfz37_0 := blk_frozen BK200.out 0; have hfz37_1 := blk_frozen BK200.out 1))
            go_roundg kj15
            case measure => have := HK1.out; have := HJ6.out; have := HJ15.out; omega
            case rel => exact ⟨(wrap64 (x4_1 + 1)), (x192000_1), (x192001_1), (.slice Ao10 x192000_1.length co10), (by first | rfl | (simp; done) | (simp [*]; done)), H', ⟨by have := HK1.out; have := HJ6.out; have := HJ15.out; omega⟩, ⟨by (with_reducible repeat (first | apply Kd.R_alloc | apply Kd.R_drewN | apply Kd.R_drew)); exact Kd.R_mono (Kd.R_far (p := ⟨gb200, 1, none⟩) (Kd.R_far (p := ⟨gb200, 0, none⟩) (Kd.R_types HO_192000.out BK200.out (by decide)) (fun _ hk => hk.2) (.slice Ao34 t194.length co34)) (fun _ hk => hk.2) (.int .i64 t197)) (fun _ hk => trivial)⟩, ⟨by (with_reducible repeat (first | refine blk_drewN ?_ _ | refine blk_drew ?_ | refine blk_alloc ?_ _)); refine blk_far ?_ NB190_200.out _; (with_reducible repeat (first | refine blk_drewN ?_ _ | refine blk_drew ?_ | refine blk_alloc ?_ _)); refine blk_far ?_ NB190_200.out _; (with_reducible repeat (first | refine blk_drewN ?_ _ | refine blk_drew ?_ | refine blk_alloc ?_ _)); exact BK190.out⟩, ⟨by (with_reducible repeat (first | refine blk_drewN ?_ _ | refine blk_drew ?_ | refine blk_alloc ?_ _)); refine blk_far ?_ NB191_200.out _; (with_reducible repeat (first | refine blk_drewN ?_ _ | refine blk_drew ?_ | refine blk_alloc ?_ _)); refine blk_far ?_ NB191_200.out _; (with_reducible repeat (first | refine blk_drewN ?_ _ | refine blk_drew ?_ | refine blk_alloc ?_ _)); exact BK191.out⟩, ⟨by repeat (first | (with_reducible first | exact HB.out | apply below_alloc | apply pw_below_drewN | apply below_drew1 | refine below_set ?_ GE190.out | refine below_set ?_ GE191.out | refine below_set ?_ GE200.out) | exact HB.out)⟩⟩
          ·replace c18 := Bool.eq_false_iff.mpr c18
           subst c18
           have H1 : (if ((rd_T47 l0 x4_1).f0) = 2 then ((tree_Commit.f kj15 x192000_1 x192001_1 x6_6).bind fun bt201 => (if bt201.2.2 = 0 then (heronrylaw09_grown.l0 kj15 l0 (wrap64 (x4_1 + 1)) bt201.1 bt201.2.1) else (heronrylaw09_grown.l0 kj15 l0 (wrap64 (x4_1 + 1)) x192000_1 x192001_1))) else (if ((rd_T47 l0 x4_1).f0) = 3 then ((tree_Abort.f x192000_1 x192001_1 x6_6).bind fun bt207 => (if bt207.2.2.2 = 0 then (heronrylaw09_grown.l0 kj15 l0 (wrap64 (x4_1 + 1)) bt207.1 bt207.2.1) else (heronrylaw09_grown.l0 kj15 l0 (wrap64 (x4_1 + 1)) x192000_1 x192001_1))) else (heronrylaw09_grown.l0 kj15 l0 (wrap64 (x4_1 + 1)) x192000_1 x192001_1))) = some (r1, r2) := by rw [if_neg (show ¬ (false = true) by decide)] at H; exact H
           clear H
           have H := H1
           clear H1
           by_cases c38 : ((rd_T47 l0 x4_1).f0) = 2
           ·rw [if_pos c38] at H
            have c38b0 : (((rd_T47 l0 x4_1).f0) == 2) = true := beq_iff_eq.mpr c38
            have c38b1 : (((rd_T47 l0 x4_1).f0) != 2) = false := bne_eq_false_iff_eq.mpr c38
            clear c38
            replace H := Option.bind_eq_some_iff.mp H
            obtain ⟨⟨t201, t204, t205⟩, A390, H⟩ := H
            replace H : (if t205 = 0 then (heronrylaw09_grown.l0 kj15 l0 (wrap64 (x4_1 + 1)) t201 t204) else (heronrylaw09_grown.l0 kj15 l0 (wrap64 (x4_1 + 1)) x192000_1 x192001_1)) = some (r1, r2) := H
            have A39 := Aside0.mk A390
            clear A390
            by_cases c40 : t205 = 0
            ·rw [if_pos c40] at H
             have c40b0 : (t205 == 0) = true := beq_iff_eq.mpr c40
             have c40b1 : (t205 != 0) = false := bne_eq_false_iff_eq.mpr c40
             clear c40
             have H' := Aside0.mk H
             clear H
             have hnb41 := NB191_190.out
             have hnc41 := NB190_191.out
             have hcz42_0 : wc.cell? ⟨gb191, 0, none⟩ = some (.slice Ao10 x192000_1.length co10) := (blk_cell BK191.out 0).trans rfl
             have hcz42_1 : wc.cell? ⟨gb191, 1, none⟩ = some (.int .i64 x192001_1) := (blk_cell BK191.out 1).trans rfl
             have hfz42_0 := blk_frozen BK191.out 0
             have hfz42_1 := blk_frozen BK191.out 1
             go_wp2_with (first | ((with_reducible refine gate_callee (f := 11) rfl ?_); refine goesL_ (some 60) rfl rfl Try.func11 (by kernel_rfl) rfl #[.agg #[.slice Ao10 x192000_1.length co10, .int .i64 x192001_1], .int .i64 x6_6] rfl (by (try simp only [List.map_toArray, List.map_cons, List.map_nil]); first | done | rfl | (simp only [List.length_drop, List.length_take]; rfl)) ?_; (with_reducible refine (tree_Commit.calls kj15 _ _ x192000_1 x192001_1 x6_6 t201 t204 t205 _ ?side1 ?side2 A39.out).mono ?_); (case side1 => repeat (first | exact (Kd.R_reads' HO_192000.out).2.2 | (with_reducible refine Kd.C_alloc ?_ _) | (with_reducible refine Kd.C_drewN ?_ _) | (with_reducible refine Kd.C_drew ?_))); (case side2 => exact (Kd.R_reads' HO_192000.out).2.1); rintro e w43 ⟨v202, rfl, ho0, hb⟩; refine ⟨_, rfl, ?_⟩; have n0_ := Aside0.mk (Kd.R_elder' (by (with_reducible repeat (first | apply Kd.R_alloc | apply Kd.R_drewN | apply Kd.R_drew)); exact HO_192000.out) (Kd.R_base ho0) hb); have n1_ := Aside0.mk (Kd.R_lower (Kd.R_new' ho0 (Kd.R_lt (by (with_reducible repeat (first | apply Kd.R_alloc | apply Kd.R_drewN | apply Kd.R_drew)); exact HO_192000.out))) (below_size (by repeat (first | (with_reducible first | exact HB.out | apply below_alloc | apply pw_below_drewN | apply below_drew1 | refine below_set ?_ GE190.out | refine below_set ?_ GE191.out) | exact HB.out)))); have n2_ := Aside0.mk (blk_below (g := gb190) (o := .cells #[.slice none 0 0, .int .i64 0] 26 (0, 0)) (by (with_reducible repeat (first | refine blk_drewN ?_ _ | refine blk_drew ?_ | refine blk_alloc ?_ _)); exact BK190.out) hb); have n3_ := Aside0.mk (blk_below (g := gb191) (o := .cells #[.slice Ao10 x192000_1.length co10, .int .i64 x192001_1] 26 (0, 0)) (by (with_reducible repeat (first | refine blk_drewN ?_ _ | refine blk_drew ?_ | refine blk_alloc ?_ _)); exact BK191.out) hb); have n4_ := Aside0.mk (below_step (by repeat (first | (with_reducible first | exact HB.out | apply below_alloc | apply pw_below_drewN | apply below_drew1 | refine below_set ?_ GE190.out | refine below_set ?_ GE191.out) | exact HB.out)) hb); clear HO_192000; clear BK190; clear BK191; clear HB; have HO_192000 := n0_; have HO203 := n1_; have BK190 := n2_; have BK191 := n3_; have HB := n4_; clear n0_ n1_ n2_ n3_ n4_; (try clear hb); (try clear hb2); (try clear hk); (try clear hi); (try clear ho0)) | ((with_reducible refine gate_dst (N := 10) rfl ?_); refine box_event ?hg (N := 10) ?hd (cs := #[.slice none 0 0, .int .i64 0]) (t := 26) ?hr ?_; (case hd => rfl); (case hg => rfl); (case hr => first | (go_simp; done) | (go_simp; rfl)); intro gb206 hg w44 hbox hb; have n0_ := Aside0.mk (Kd.R_below (by (with_reducible repeat (first | apply Kd.R_alloc | apply Kd.R_drewN | apply Kd.R_drew)); exact HO_192000.out) hb); have n1_ := Aside0.mk (Kd.R_below (by (with_reducible repeat (first | apply Kd.R_alloc | apply Kd.R_drewN | apply Kd.R_drew)); exact HO203.out) hb); have n2_ := Aside0.mk (blk_below (g := gb190) (o := .cells #[.slice none 0 0, .int .i64 0] 26 (0, 0)) (by (with_reducible repeat (first | refine blk_drewN ?_ _ | refine blk_drew ?_ | refine blk_alloc ?_ _)); exact BK190.out) hb); have n3_ := Aside0.mk (blk_below (g := gb191) (o := .cells #[.slice Ao10 x192000_1.length co10, .int .i64 x192001_1] 26 (0, 0)) (by (with_reducible repeat (first | refine blk_drewN ?_ _ | refine blk_drew ?_ | refine blk_alloc ?_ _)); exact BK191.out) hb); have n4_ := Aside0.mk (below_step (by repeat (first | (with_reducible first | exact HB.out | apply below_alloc | apply pw_below_drewN | apply below_drew1 | refine below_set ?_ GE190.out | refine below_set ?_ GE191.out) | exact HB.out)) hb); have n5_ := Aside0.mk (hbox); have n6_ := Aside0.mk ((by rw [hg]; exact (below_size (by repeat (first | (with_reducible first | exact HB.out | apply below_alloc | apply pw_below_drewN | apply below_drew1 | refine below_set ?_ GE190.out | refine below_set ?_ GE191.out) | exact HB.out))) : w.heap.size ≤ gb206)); have n7_ := Aside0.mk ((by rw [hg]; exact (below_size (by repeat (first | (with_reducible first | exact HB.out | apply below_alloc | apply pw_below_drewN | apply below_drew1 | refine below_set ?_ GE190.out | refine below_set ?_ GE191.out) | exact HB.out))) : w.heap.size ≤ gb206)); have n8_ := Aside0.mk ((by rw [hg]; exact Nat.ne_of_lt (blk_lt (g := gb190) (o := .cells #[.slice none 0 0, .int .i64 0] 26 (0, 0)) (by (with_reducible repeat (first | refine blk_drewN ?_ _ | refine blk_drew ?_ | refine blk_alloc ?_ _)); exact BK190.out)) : gb190 ≠ gb206)); have n9_ := Aside0.mk ((by rw [hg]; exact Nat.ne_of_gt (blk_lt (g := gb190) (o := .cells #[.slice none 0 0, .int .i64 0] 26 (0, 0)) (by (with_reducible repeat (first | refine blk_drewN ?_ _ | refine blk_drew ?_ | refine blk_alloc ?_ _)); exact BK190.out)) : gb206 ≠ gb190)); have n10_ := Aside0.mk ((by rw [hg]; exact Nat.ne_of_lt (blk_lt (g := gb191) (o := .cells #[.slice Ao10 x192000_1.length co10, .int .i64 x192001_1] 26 (0, 0)) (by (with_reducible repeat (first | refine blk_drewN ?_ _ | refine blk_drew ?_ | refine blk_alloc ?_ _)); exact BK191.out)) : gb191 ≠ gb206)); have n11_ := Aside0.mk ((by rw [hg]; exact Nat.ne_of_gt (blk_lt (g := gb191) (o := .cells #[.slice Ao10 x192000_1.length co10, .int .i64 x192001_1] 26 (0, 0)) (by (with_reducible repeat (first | refine blk_drewN ?_ _ | refine blk_drew ?_ | refine blk_alloc ?_ _)); exact BK191.out)) : gb206 ≠ gb191)); clear HO_192000; clear HO203; clear BK190; clear BK191; clear HB; have HO_192000 := n0_; have HO203 := n1_; have BK190 := n2_; have BK191 := n3_; have HB := n4_; have BK206 := n5_; have GW206 := n6_; have GE206 := n7_; have NB190_206 := n8_; have NB206_190 := n9_; have NB191_206 := n10_; have NB206_191 := n11_; clear n0_ n1_ n2_ n3_ n4_ n5_ n6_ n7_ n8_ n9_ n10_ n11_; clear hb hbox hg; obtain ⟨Ao45, co45, eo45⟩ := Kd.R_slice HO203.out; subst eo45; have hnb46 := NB206_190.out; have hnc46 := NB190_206.out; have hnb47 := NB206_191.out; have hnc47 := NB191_206.out; have hcz48_0 : w44.cell? ⟨gb206, 0, none⟩ = some (.slice none 0 0) := (blk_cell BK206.out 0).trans rfl; have hcz48_1 : w44.cell? ⟨gb206, 1, none⟩ = some (.int .i64 0) := (blk_cell BK206.out 1).trans rfl; have hfz48_0 := blk_frozen BK206.out 0; have hfz48_1 := blk_frozen BK206.out 1; have hcz49_0 : w44.cell? ⟨gb191, 0, none⟩ = some (.slice Ao10 x192000_1.length co10) := (blk_cell BK191.out 0).trans rfl; have hcz49_1 : w44.cell? ⟨gb191, 1, none⟩ = some (.int .i64 x192001_1) := (blk_cell BK191.out 1).trans rfl; have hfz49_0 := blk_frozen BK191.out 0; have hfz49_1 := blk_frozen BK191.out 1))
             go_roundg kj15
             case measure => have := HK1.out; have := HJ6.out; have := HJ15.out; omega
             case rel => exact ⟨(wrap64 (x4_1 + 1)), (t201), (t204), (.slice Ao45 t201.length co45), (by first | rfl | (simp; done) | (simp [*]; done)), H', ⟨by have := HK1.out; have := HJ6.out; have := HJ15.out; omega⟩, ⟨by (with_reducible repeat (first | apply Kd.R_alloc | apply Kd.R_drewN | apply Kd.R_drew)); exact Kd.R_mono (Kd.R_far (p := ⟨gb191, 1, none⟩) (Kd.R_far (p := ⟨gb191, 0, none⟩) (Kd.R_far (p := ⟨gb206, 1, none⟩) (Kd.R_far (p := ⟨gb206, 0, none⟩) (Kd.R_types (Kd.R_types HO203.out BK206.out (by decide)) BK191.out (by decide)) (fun _ hk => hk.1.2) (.slice Ao45 t201.length co45)) (fun _ hk => hk.1.2) (.int .i64 t204)) (fun _ hk => hk.2) (.slice Ao45 t201.length co45)) (fun _ hk => hk.2) (.int .i64 t204)) (fun _ hk => trivial)⟩, ⟨by (with_reducible repeat (first | refine blk_drewN ?_ _ | refine blk_drew ?_ | refine blk_alloc ?_ _)); refine blk_far ?_ NB190_191.out _; (with_reducible repeat (first | refine blk_drewN ?_ _ | refine blk_drew ?_ | refine blk_alloc ?_ _)); refine blk_far ?_ NB190_191.out _; (with_reducible repeat (first | refine blk_drewN ?_ _ | refine blk_drew ?_ | refine blk_alloc ?_ _)); refine blk_far ?_ NB190_206.out _; (with_reducible repeat (first | refine blk_drewN ?_ _ | refine blk_drew ?_ | refine blk_alloc ?_ _)); refine blk_far ?_ NB190_206.out _; (with_reducible repeat (first | refine blk_drewN ?_ _ | refine blk_drew ?_ | refine blk_alloc ?_ _)); exact BK190.out⟩, ⟨by (with_reducible repeat (first | refine blk_drewN ?_ _ | refine blk_drew ?_ | refine blk_alloc ?_ _)); refine blk_put (cs := #[.slice Ao45 t201.length co45, .int .i64 x192001_1]) ?_ 1 _ rfl; (with_reducible repeat (first | refine blk_drewN ?_ _ | refine blk_drew ?_ | refine blk_alloc ?_ _)); refine blk_put (cs := #[.slice Ao10 x192000_1.length co10, .int .i64 x192001_1]) ?_ 0 _ rfl; (with_reducible repeat (first | refine blk_drewN ?_ _ | refine blk_drew ?_ | refine blk_alloc ?_ _)); refine blk_far ?_ NB191_206.out _; (with_reducible repeat (first | refine blk_drewN ?_ _ | refine blk_drew ?_ | refine blk_alloc ?_ _)); refine blk_far ?_ NB191_206.out _; (with_reducible repeat (first | refine blk_drewN ?_ _ | refine blk_drew ?_ | refine blk_alloc ?_ _)); exact BK191.out⟩, ⟨by repeat (first | (with_reducible first | exact HB.out | apply below_alloc | apply pw_below_drewN | apply below_drew1 | refine below_set ?_ GE190.out | refine below_set ?_ GE191.out | refine below_set ?_ GE206.out) | exact HB.out)⟩⟩
            ·rw [if_neg c40] at H
             have c40b0 : (t205 == 0) = false := beq_eq_false_iff_ne.mpr c40
             have c40b1 : (t205 != 0) = true := bne_iff_ne.mpr c40
             have H' := Aside0.mk H
             clear H
             have hnb50 := NB191_190.out
             have hnc50 := NB190_191.out
             have hcz51_0 : wc.cell? ⟨gb191, 0, none⟩ = some (.slice Ao10 x192000_1.length co10) := (blk_cell BK191.out 0).trans rfl
             have hcz51_1 : wc.cell? ⟨gb191, 1, none⟩ = some (.int .i64 x192001_1) := (blk_cell BK191.out 1).trans rfl
             have hfz51_0 := blk_frozen BK191.out 0
             have hfz51_1 := blk_frozen BK191.out 1
             go_wp2_with (first | ((with_reducible refine gate_callee (f := 11) rfl ?_); refine goesL_ (some 60) rfl rfl Try.func11 (by kernel_rfl) rfl #[.agg #[.slice Ao10 x192000_1.length co10, .int .i64 x192001_1], .int .i64 x6_6] rfl (by (try simp only [List.map_toArray, List.map_cons, List.map_nil]); first | done | rfl | (simp only [List.length_drop, List.length_take]; rfl)) ?_; (with_reducible refine (tree_Commit.calls kj15 _ _ x192000_1 x192001_1 x6_6 t201 t204 t205 _ ?side1 ?side2 A39.out).mono ?_); (case side1 => repeat (first | exact (Kd.R_reads' HO_192000.out).2.2 | (with_reducible refine Kd.C_alloc ?_ _) | (with_reducible refine Kd.C_drewN ?_ _) | (with_reducible refine Kd.C_drew ?_))); (case side2 => exact (Kd.R_reads' HO_192000.out).2.1); rintro e w52 ⟨v202, rfl, ho0, hb⟩; refine ⟨_, rfl, ?_⟩; have n0_ := Aside0.mk (Kd.R_elder' (by (with_reducible repeat (first | apply Kd.R_alloc | apply Kd.R_drewN | apply Kd.R_drew)); exact HO_192000.out) (Kd.R_base ho0) hb); have n1_ := Aside0.mk (Kd.R_lower (Kd.R_new' ho0 (Kd.R_lt (by (with_reducible repeat (first | apply Kd.R_alloc | apply Kd.R_drewN | apply Kd.R_drew)); exact HO_192000.out))) (below_size (by repeat (first | (with_reducible first | exact HB.out | apply below_alloc | apply pw_below_drewN | apply below_drew1 | refine below_set ?_ GE190.out | refine below_set ?_ GE191.out) | exact HB.out)))); have n2_ := Aside0.mk (blk_below (g := gb190) (o := .cells #[.slice none 0 0, .int .i64 0] 26 (0, 0)) (by (with_reducible repeat (first | refine blk_drewN ?_ _ | refine blk_drew ?_ | refine blk_alloc ?_ _)); exact BK190.out) hb); have n3_ := Aside0.mk (blk_below (g := gb191) (o := .cells #[.slice Ao10 x192000_1.length co10, .int .i64 x192001_1] 26 (0, 0)) (by (with_reducible repeat (first | refine blk_drewN ?_ _ | refine blk_drew ?_ | refine blk_alloc ?_ _)); exact BK191.out) hb); have n4_ := Aside0.mk (below_step (by repeat (first | (with_reducible first | exact HB.out | apply below_alloc | apply pw_below_drewN | apply below_drew1 | refine below_set ?_ GE190.out | refine below_set ?_ GE191.out) | exact HB.out)) hb); clear HO_192000; clear BK190; clear BK191; clear HB; have HO_192000 := n0_; have HO203 := n1_; have BK190 := n2_; have BK191 := n3_; have HB := n4_; clear n0_ n1_ n2_ n3_ n4_; (try clear hb); (try clear hb2); (try clear hk); (try clear hi); (try clear ho0)) | ((with_reducible refine gate_dst (N := 10) rfl ?_); refine box_event ?hg (N := 10) ?hd (cs := #[.slice none 0 0, .int .i64 0]) (t := 26) ?hr ?_; (case hd => rfl); (case hg => rfl); (case hr => first | (go_simp; done) | (go_simp; rfl)); intro gb206 hg w53 hbox hb; have n0_ := Aside0.mk (Kd.R_below (by (with_reducible repeat (first | apply Kd.R_alloc | apply Kd.R_drewN | apply Kd.R_drew)); exact HO_192000.out) hb); have n1_ := Aside0.mk (Kd.R_below (by (with_reducible repeat (first | apply Kd.R_alloc | apply Kd.R_drewN | apply Kd.R_drew)); exact HO203.out) hb); have n2_ := Aside0.mk (blk_below (g := gb190) (o := .cells #[.slice none 0 0, .int .i64 0] 26 (0, 0)) (by (with_reducible repeat (first | refine blk_drewN ?_ _ | refine blk_drew ?_ | refine blk_alloc ?_ _)); exact BK190.out) hb); have n3_ := Aside0.mk (blk_below (g := gb191) (o := .cells #[.slice Ao10 x192000_1.length co10, .int .i64 x192001_1] 26 (0, 0)) (by (with_reducible repeat (first | refine blk_drewN ?_ _ | refine blk_drew ?_ | refine blk_alloc ?_ _)); exact BK191.out) hb); have n4_ := Aside0.mk (below_step (by repeat (first | (with_reducible first | exact HB.out | apply below_alloc | apply pw_below_drewN | apply below_drew1 | refine below_set ?_ GE190.out | refine below_set ?_ GE191.out) | exact HB.out)) hb); have n5_ := Aside0.mk (hbox); have n6_ := Aside0.mk ((by rw [hg]; exact (below_size (by repeat (first | (with_reducible first | exact HB.out | apply below_alloc | apply pw_below_drewN | apply below_drew1 | refine below_set ?_ GE190.out | refine below_set ?_ GE191.out) | exact HB.out))) : w.heap.size ≤ gb206)); have n7_ := Aside0.mk ((by rw [hg]; exact (below_size (by repeat (first | (with_reducible first | exact HB.out | apply below_alloc | apply pw_below_drewN | apply below_drew1 | refine below_set ?_ GE190.out | refine below_set ?_ GE191.out) | exact HB.out))) : w.heap.size ≤ gb206)); have n8_ := Aside0.mk ((by rw [hg]; exact Nat.ne_of_lt (blk_lt (g := gb190) (o := .cells #[.slice none 0 0, .int .i64 0] 26 (0, 0)) (by (with_reducible repeat (first | refine blk_drewN ?_ _ | refine blk_drew ?_ | refine blk_alloc ?_ _)); exact BK190.out)) : gb190 ≠ gb206)); have n9_ := Aside0.mk ((by rw [hg]; exact Nat.ne_of_gt (blk_lt (g := gb190) (o := .cells #[.slice none 0 0, .int .i64 0] 26 (0, 0)) (by (with_reducible repeat (first | refine blk_drewN ?_ _ | refine blk_drew ?_ | refine blk_alloc ?_ _)); exact BK190.out)) : gb206 ≠ gb190)); have n10_ := Aside0.mk ((by rw [hg]; exact Nat.ne_of_lt (blk_lt (g := gb191) (o := .cells #[.slice Ao10 x192000_1.length co10, .int .i64 x192001_1] 26 (0, 0)) (by (with_reducible repeat (first | refine blk_drewN ?_ _ | refine blk_drew ?_ | refine blk_alloc ?_ _)); exact BK191.out)) : gb191 ≠ gb206)); have n11_ := Aside0.mk ((by rw [hg]; exact Nat.ne_of_gt (blk_lt (g := gb191) (o := .cells #[.slice Ao10 x192000_1.length co10, .int .i64 x192001_1] 26 (0, 0)) (by (with_reducible repeat (first | refine blk_drewN ?_ _ | refine blk_drew ?_ | refine blk_alloc ?_ _)); exact BK191.out)) : gb206 ≠ gb191)); clear HO_192000; clear HO203; clear BK190; clear BK191; clear HB; have HO_192000 := n0_; have HO203 := n1_; have BK190 := n2_; have BK191 := n3_; have HB := n4_; have BK206 := n5_; have GW206 := n6_; have GE206 := n7_; have NB190_206 := n8_; have NB206_190 := n9_; have NB191_206 := n10_; have NB206_191 := n11_; clear n0_ n1_ n2_ n3_ n4_ n5_ n6_ n7_ n8_ n9_ n10_ n11_; clear hb hbox hg; obtain ⟨Ao54, co54, eo54⟩ := Kd.R_slice HO203.out; subst eo54; have hnb55 := NB206_190.out; have hnc55 := NB190_206.out; have hnb56 := NB206_191.out; have hnc56 := NB191_206.out; have hcz57_0 : w53.cell? ⟨gb206, 0, none⟩ = some (.slice none 0 0) := (blk_cell BK206.out 0).trans rfl; have hcz57_1 : w53.cell? ⟨gb206, 1, none⟩ = some (.int .i64 0) := (blk_cell BK206.out 1).trans rfl; have hfz57_0 := blk_frozen BK206.out 0; have hfz57_1 := blk_frozen BK206.out 1))
             go_roundg kj15
             case measure => have := HK1.out; have := HJ6.out; have := HJ15.out; omega
             case rel => exact ⟨(wrap64 (x4_1 + 1)), (x192000_1), (x192001_1), (.slice Ao10 x192000_1.length co10), (by first | rfl | (simp; done) | (simp [*]; done)), H', ⟨by have := HK1.out; have := HJ6.out; have := HJ15.out; omega⟩, ⟨by (with_reducible repeat (first | apply Kd.R_alloc | apply Kd.R_drewN | apply Kd.R_drew)); exact Kd.R_mono (Kd.R_far (p := ⟨gb206, 1, none⟩) (Kd.R_far (p := ⟨gb206, 0, none⟩) (Kd.R_types HO_192000.out BK206.out (by decide)) (fun _ hk => hk.2) (.slice Ao54 t201.length co54)) (fun _ hk => hk.2) (.int .i64 t204)) (fun _ hk => trivial)⟩, ⟨by (with_reducible repeat (first | refine blk_drewN ?_ _ | refine blk_drew ?_ | refine blk_alloc ?_ _)); refine blk_far ?_ NB190_206.out _; (with_reducible repeat (first | refine blk_drewN ?_ _ | refine blk_drew ?_ | refine blk_alloc ?_ _)); refine blk_far ?_ NB190_206.out _; (with_reducible repeat (first | refine blk_drewN ?_ _ | refine blk_drew ?_ | refine blk_alloc ?_ _)); exact BK190.out⟩, ⟨by (with_reducible repeat (first | refine blk_drewN ?_ _ | refine blk_drew ?_ | refine blk_alloc ?_ _)); refine blk_far ?_ NB191_206.out _; (with_reducible repeat (first | refine blk_drewN ?_ _ | refine blk_drew ?_ | refine blk_alloc ?_ _)); refine blk_far ?_ NB191_206.out _; (with_reducible repeat (first | refine blk_drewN ?_ _ | refine blk_drew ?_ | refine blk_alloc ?_ _)); exact BK191.out⟩, ⟨by repeat (first | (with_reducible first | exact HB.out | apply below_alloc | apply pw_below_drewN | apply below_drew1 | refine below_set ?_ GE190.out | refine below_set ?_ GE191.out | refine below_set ?_ GE206.out) | exact HB.out)⟩⟩
           ·rw [if_neg c38] at H
            have c38b0 : (((rd_T47 l0 x4_1).f0) == 2) = false := beq_eq_false_iff_ne.mpr c38
            have c38b1 : (((rd_T47 l0 x4_1).f0) != 2) = true := bne_iff_ne.mpr c38
            by_cases c58 : ((rd_T47 l0 x4_1).f0) = 3
            ·rw [if_pos c58] at H
             have c58b0 : (((rd_T47 l0 x4_1).f0) == 3) = true := beq_iff_eq.mpr c58
             have c58b1 : (((rd_T47 l0 x4_1).f0) != 3) = false := bne_eq_false_iff_eq.mpr c58
             clear c58
             replace H := Option.bind_eq_some_iff.mp H
             obtain ⟨⟨t207, t210, t211, t214⟩, A590, H⟩ := H
             replace H : (if t214 = 0 then (heronrylaw09_grown.l0 kj15 l0 (wrap64 (x4_1 + 1)) t207 t210) else (heronrylaw09_grown.l0 kj15 l0 (wrap64 (x4_1 + 1)) x192000_1 x192001_1)) = some (r1, r2) := H
             have A59 := Aside0.mk A590
             clear A590
             by_cases c60 : t214 = 0
             ·rw [if_pos c60] at H
              have c60b0 : (t214 == 0) = true := beq_iff_eq.mpr c60
              have c60b1 : (t214 != 0) = false := bne_eq_false_iff_eq.mpr c60
              clear c60
              have H' := Aside0.mk H
              clear H
              have hnb61 := NB191_190.out
              have hnc61 := NB190_191.out
              have hcz62_0 : wc.cell? ⟨gb191, 0, none⟩ = some (.slice Ao10 x192000_1.length co10) := (blk_cell BK191.out 0).trans rfl
              have hcz62_1 : wc.cell? ⟨gb191, 1, none⟩ = some (.int .i64 x192001_1) := (blk_cell BK191.out 1).trans rfl
              have hfz62_0 := blk_frozen BK191.out 0
              have hfz62_1 := blk_frozen BK191.out 1
              go_wp2_with (first | ((with_reducible refine gate_callee (f := 10) rfl ?_); refine goesL_ (some 71) rfl rfl Try.func10 (by kernel_rfl) rfl #[.agg #[.slice Ao10 x192000_1.length co10, .int .i64 x192001_1], .int .i64 x6_6] rfl (by (try simp only [List.map_toArray, List.map_cons, List.map_nil]); first | done | rfl | (simp only [List.length_drop, List.length_take]; rfl)) ?_; (with_reducible refine (tree_Abort.calls _ _ x192000_1 x192001_1 x6_6 t207 t210 t211 t214 _ ?side1 ?side2 A59.out).mono ?_); (case side1 => repeat (first | exact (Kd.R_reads' HO_192000.out).2.2 | (with_reducible refine Kd.C_alloc ?_ _) | (with_reducible refine Kd.C_drewN ?_ _) | (with_reducible refine Kd.C_drew ?_))); (case side2 => exact (Kd.R_reads' HO_192000.out).2.1); rintro e w63 ⟨v208, v212, rfl, ho0, ho1, hb⟩; refine ⟨_, rfl, ?_⟩; have n0_ := Aside0.mk (Kd.R_elder' (by (with_reducible repeat (first | apply Kd.R_alloc | apply Kd.R_drewN | apply Kd.R_drew)); exact HO_192000.out) (Kd.R_base ho0) hb); have n1_ := Aside0.mk (Kd.R_lower (Kd.R_new' ho0 (Kd.R_lt (by (with_reducible repeat (first | apply Kd.R_alloc | apply Kd.R_drewN | apply Kd.R_drew)); exact HO_192000.out))) (below_size (by repeat (first | (with_reducible first | exact HB.out | apply below_alloc | apply pw_below_drewN | apply below_drew1 | refine below_set ?_ GE190.out | refine below_set ?_ GE191.out) | exact HB.out)))); have n2_ := Aside0.mk (Kd.R_lower ho1 (below_size (by repeat (first | (with_reducible first | exact HB.out | apply below_alloc | apply pw_below_drewN | apply below_drew1 | refine below_set ?_ GE190.out | refine below_set ?_ GE191.out) | exact HB.out)))); have n3_ := Aside0.mk (blk_below (g := gb190) (o := .cells #[.slice none 0 0, .int .i64 0] 26 (0, 0)) (by (with_reducible repeat (first | refine blk_drewN ?_ _ | refine blk_drew ?_ | refine blk_alloc ?_ _)); exact BK190.out) hb); have n4_ := Aside0.mk (blk_below (g := gb191) (o := .cells #[.slice Ao10 x192000_1.length co10, .int .i64 x192001_1] 26 (0, 0)) (by (with_reducible repeat (first | refine blk_drewN ?_ _ | refine blk_drew ?_ | refine blk_alloc ?_ _)); exact BK191.out) hb); have n5_ := Aside0.mk (below_step (by repeat (first | (with_reducible first | exact HB.out | apply below_alloc | apply pw_below_drewN | apply below_drew1 | refine below_set ?_ GE190.out | refine below_set ?_ GE191.out) | exact HB.out)) hb); clear HO_192000; clear BK190; clear BK191; clear HB; have HO_192000 := n0_; have HO209 := n1_; have HO213 := n2_; have BK190 := n3_; have BK191 := n4_; have HB := n5_; clear n0_ n1_ n2_ n3_ n4_ n5_; (try clear hb); (try clear hb2); (try clear hk); (try clear hi); (try clear ho0); (try clear ho1)) | ((with_reducible refine gate_dst (N := 12) rfl ?_); refine box_event ?hg (N := 12) ?hd (cs := #[.slice none 0 0, .int .i64 0]) (t := 26) ?hr ?_; (case hd => rfl); (case hg => rfl); (case hr => first | (go_simp; done) | (go_simp; rfl)); intro gb215 hg w64 hbox hb; have n0_ := Aside0.mk (Kd.R_below (by (with_reducible repeat (first | apply Kd.R_alloc | apply Kd.R_drewN | apply Kd.R_drew)); exact HO_192000.out) hb); have n1_ := Aside0.mk (Kd.R_below (by (with_reducible repeat (first | apply Kd.R_alloc | apply Kd.R_drewN | apply Kd.R_drew)); exact HO209.out) hb); have n2_ := Aside0.mk (Kd.R_below (by (with_reducible repeat (first | apply Kd.R_alloc | apply Kd.R_drewN | apply Kd.R_drew)); exact HO213.out) hb); have n3_ := Aside0.mk (blk_below (g := gb190) (o := .cells #[.slice none 0 0, .int .i64 0] 26 (0, 0)) (by (with_reducible repeat (first | refine blk_drewN ?_ _ | refine blk_drew ?_ | refine blk_alloc ?_ _)); exact BK190.out) hb); have n4_ := Aside0.mk (blk_below (g := gb191) (o := .cells #[.slice Ao10 x192000_1.length co10, .int .i64 x192001_1] 26 (0, 0)) (by (with_reducible repeat (first | refine blk_drewN ?_ _ | refine blk_drew ?_ | refine blk_alloc ?_ _)); exact BK191.out) hb); have n5_ := Aside0.mk (below_step (by repeat (first | (with_reducible first | exact HB.out | apply below_alloc | apply pw_below_drewN | apply below_drew1 | refine below_set ?_ GE190.out | refine below_set ?_ GE191.out) | exact HB.out)) hb); have n6_ := Aside0.mk (hbox); have n7_ := Aside0.mk ((by rw [hg]; exact (below_size (by repeat (first | (with_reducible first | exact HB.out | apply below_alloc | apply pw_below_drewN | apply below_drew1 | refine below_set ?_ GE190.out | refine below_set ?_ GE191.out) | exact HB.out))) : w.heap.size ≤ gb215)); have n8_ := Aside0.mk ((by rw [hg]; exact (below_size (by repeat (first | (with_reducible first | exact HB.out | apply below_alloc | apply pw_below_drewN | apply below_drew1 | refine below_set ?_ GE190.out | refine below_set ?_ GE191.out) | exact HB.out))) : w.heap.size ≤ gb215)); have n9_ := Aside0.mk ((by rw [hg]; exact Nat.ne_of_lt (blk_lt (g := gb190) (o := .cells #[.slice none 0 0, .int .i64 0] 26 (0, 0)) (by (with_reducible repeat (first | refine blk_drewN ?_ _ | refine blk_drew ?_ | refine blk_alloc ?_ _)); exact BK190.out)) : gb190 ≠ gb215)); have n10_ := Aside0.mk ((by rw [hg]; exact Nat.ne_of_gt (blk_lt (g := gb190) (o := .cells #[.slice none 0 0, .int .i64 0] 26 (0, 0)) (by (with_reducible repeat (first | refine blk_drewN ?_ _ | refine blk_drew ?_ | refine blk_alloc ?_ _)); exact BK190.out)) : gb215 ≠ gb190)); have n11_ := Aside0.mk ((by rw [hg]; exact Nat.ne_of_lt (blk_lt (g := gb191) (o := .cells #[.slice Ao10 x192000_1.length co10, .int .i64 x192001_1] 26 (0, 0)) (by (with_reducible repeat (first | refine blk_drewN ?_ _ | refine blk_drew ?_ | refine blk_alloc ?_ _)); exact BK191.out)) : gb191 ≠ gb215)); have n12_ := Aside0.mk ((by rw [hg]; exact Nat.ne_of_gt (blk_lt (g := gb191) (o := .cells #[.slice Ao10 x192000_1.length co10, .int .i64 x192001_1] 26 (0, 0)) (by (with_reducible repeat (first | refine blk_drewN ?_ _ | refine blk_drew ?_ | refine blk_alloc ?_ _)); exact BK191.out)) : gb215 ≠ gb191)); clear HO_192000; clear HO209; clear HO213; clear BK190; clear BK191; clear HB; have HO_192000 := n0_; have HO209 := n1_; have HO213 := n2_; have BK190 := n3_; have BK191 := n4_; have HB := n5_; have BK215 := n6_; have GW215 := n7_; have GE215 := n8_; have NB190_215 := n9_; have NB215_190 := n10_; have NB191_215 := n11_; have NB215_191 := n12_; clear n0_ n1_ n2_ n3_ n4_ n5_ n6_ n7_ n8_ n9_ n10_ n11_ n12_; clear hb hbox hg; obtain ⟨Ao65, co65, eo65⟩ := Kd.R_slice HO209.out; subst eo65; have hnb66 := NB215_190.out; have hnc66 := NB190_215.out; have hnb67 := NB215_191.out; have hnc67 := NB191_215.out; have hcz68_0 : w64.cell? ⟨gb215, 0, none⟩ = some (.slice none 0 0) := (blk_cell BK215.out 0).trans rfl; have hcz68_1 : w64.cell? ⟨gb215, 1, none⟩ = some (.int .i64 0) := (blk_cell BK215.out 1).trans rfl; have hfz68_0 := blk_frozen BK215.out 0; have hfz68_1 := blk_frozen BK215.out 1; have hcz69_0 : w64.cell? ⟨gb191, 0, none⟩ = some (.slice Ao10 x192000_1.length co10) := (blk_cell BK191.out 0).trans rfl; have hcz69_1 : w64.cell? ⟨gb191, 1, none⟩ = some (.int .i64 x192001_1) := (blk_cell BK191.out 1).trans rfl; have hfz69_0 := blk_frozen BK191.out 0; have hfz69_1 := blk_frozen BK191.out 1))
              go_roundg kj15
              case measure => have := HK1.out; have := HJ6.out; have := HJ15.out; omega
              case rel => exact ⟨(wrap64 (x4_1 + 1)), (t207), (t210), (.slice Ao65 t207.length co65), (by first | rfl | (simp; done) | (simp [*]; done)), H', ⟨by have := HK1.out; have := HJ6.out; have := HJ15.out; omega⟩, ⟨by (with_reducible repeat (first | apply Kd.R_alloc | apply Kd.R_drewN | apply Kd.R_drew)); exact Kd.R_mono (Kd.R_far (p := ⟨gb191, 1, none⟩) (Kd.R_far (p := ⟨gb191, 0, none⟩) (Kd.R_far (p := ⟨gb215, 1, none⟩) (Kd.R_far (p := ⟨gb215, 0, none⟩) (Kd.R_types (Kd.R_types HO209.out BK215.out (by decide)) BK191.out (by decide)) (fun _ hk => hk.1.2) (.slice Ao65 t207.length co65)) (fun _ hk => hk.1.2) (.int .i64 t210)) (fun _ hk => hk.2) (.slice Ao65 t207.length co65)) (fun _ hk => hk.2) (.int .i64 t210)) (fun _ hk => trivial)⟩, ⟨by (with_reducible repeat (first | refine blk_drewN ?_ _ | refine blk_drew ?_ | refine blk_alloc ?_ _)); refine blk_far ?_ NB190_191.out _; (with_reducible repeat (first | refine blk_drewN ?_ _ | refine blk_drew ?_ | refine blk_alloc ?_ _)); refine blk_far ?_ NB190_191.out _; (with_reducible repeat (first | refine blk_drewN ?_ _ | refine blk_drew ?_ | refine blk_alloc ?_ _)); refine blk_far ?_ NB190_215.out _; (with_reducible repeat (first | refine blk_drewN ?_ _ | refine blk_drew ?_ | refine blk_alloc ?_ _)); refine blk_far ?_ NB190_215.out _; (with_reducible repeat (first | refine blk_drewN ?_ _ | refine blk_drew ?_ | refine blk_alloc ?_ _)); exact BK190.out⟩, ⟨by (with_reducible repeat (first | refine blk_drewN ?_ _ | refine blk_drew ?_ | refine blk_alloc ?_ _)); refine blk_put (cs := #[.slice Ao65 t207.length co65, .int .i64 x192001_1]) ?_ 1 _ rfl; (with_reducible repeat (first | refine blk_drewN ?_ _ | refine blk_drew ?_ | refine blk_alloc ?_ _)); refine blk_put (cs := #[.slice Ao10 x192000_1.length co10, .int .i64 x192001_1]) ?_ 0 _ rfl; (with_reducible repeat (first | refine blk_drewN ?_ _ | refine blk_drew ?_ | refine blk_alloc ?_ _)); refine blk_far ?_ NB191_215.out _; (with_reducible repeat (first | refine blk_drewN ?_ _ | refine blk_drew ?_ | refine blk_alloc ?_ _)); refine blk_far ?_ NB191_215.out _; (with_reducible repeat (first | refine blk_drewN ?_ _ | refine blk_drew ?_ | refine blk_alloc ?_ _)); exact BK191.out⟩, ⟨by repeat (first | (with_reducible first | exact HB.out | apply below_alloc | apply pw_below_drewN | apply below_drew1 | refine below_set ?_ GE190.out | refine below_set ?_ GE191.out | refine below_set ?_ GE215.out) | exact HB.out)⟩⟩
             ·rw [if_neg c60] at H
              have c60b0 : (t214 == 0) = false := beq_eq_false_iff_ne.mpr c60
              have c60b1 : (t214 != 0) = true := bne_iff_ne.mpr c60
              have H' := Aside0.mk H
              clear H
              have hnb70 := NB191_190.out
              have hnc70 := NB190_191.out
              have hcz71_0 : wc.cell? ⟨gb191, 0, none⟩ = some (.slice Ao10 x192000_1.length co10) := (blk_cell BK191.out 0).trans rfl
              have hcz71_1 : wc.cell? ⟨gb191, 1, none⟩ = some (.int .i64 x192001_1) := (blk_cell BK191.out 1).trans rfl
              have hfz71_0 := blk_frozen BK191.out 0
              have hfz71_1 := blk_frozen BK191.out 1
              go_wp2_with (first | ((with_reducible refine gate_callee (f := 10) rfl ?_); refine goesL_ (some 71) rfl rfl Try.func10 (by kernel_rfl) rfl #[.agg #[.slice Ao10 x192000_1.length co10, .int .i64 x192001_1], .int .i64 x6_6] rfl (by (try simp only [List.map_toArray, List.map_cons, List.map_nil]); first | done | rfl | (simp only [List.length_drop, List.length_take]; rfl)) ?_; (with_reducible refine (tree_Abort.calls _ _ x192000_1 x192001_1 x6_6 t207 t210 t211 t214 _ ?side1 ?side2 A59.out).mono ?_); (case side1 => repeat (first | exact (Kd.R_reads' HO_192000.out).2.2 | (with_reducible refine Kd.C_alloc ?_ _) | (with_reducible refine Kd.C_drewN ?_ _) | (with_reducible refine Kd.C_drew ?_))); (case side2 => exact (Kd.R_reads' HO_192000.out).2.1); rintro e w72 ⟨v208, v212, rfl, ho0, ho1, hb⟩; refine ⟨_, rfl, ?_⟩; have n0_ := Aside0.mk (Kd.R_elder' (by (with_reducible repeat (first | apply Kd.R_alloc | apply Kd.R_drewN | apply Kd.R_drew)); exact HO_192000.out) (Kd.R_base ho0) hb); have n1_ := Aside0.mk (Kd.R_lower (Kd.R_new' ho0 (Kd.R_lt (by (with_reducible repeat (first | apply Kd.R_alloc | apply Kd.R_drewN | apply Kd.R_drew)); exact HO_192000.out))) (below_size (by repeat (first | (with_reducible first | exact HB.out | apply below_alloc | apply pw_below_drewN | apply below_drew1 | refine below_set ?_ GE190.out | refine below_set ?_ GE191.out) | exact HB.out)))); have n2_ := Aside0.mk (Kd.R_lower ho1 (below_size (by repeat (first | (with_reducible first | exact HB.out | apply below_alloc | apply pw_below_drewN | apply below_drew1 | refine below_set ?_ GE190.out | refine below_set ?_ GE191.out) | exact HB.out)))); have n3_ := Aside0.mk (blk_below (g := gb190) (o := .cells #[.slice none 0 0, .int .i64 0] 26 (0, 0)) (by (with_reducible repeat (first | refine blk_drewN ?_ _ | refine blk_drew ?_ | refine blk_alloc ?_ _)); exact BK190.out) hb); have n4_ := Aside0.mk (blk_below (g := gb191) (o := .cells #[.slice Ao10 x192000_1.length co10, .int .i64 x192001_1] 26 (0, 0)) (by (with_reducible repeat (first | refine blk_drewN ?_ _ | refine blk_drew ?_ | refine blk_alloc ?_ _)); exact BK191.out) hb); have n5_ := Aside0.mk (below_step (by repeat (first | (with_reducible first | exact HB.out | apply below_alloc | apply pw_below_drewN | apply below_drew1 | refine below_set ?_ GE190.out | refine below_set ?_ GE191.out) | exact HB.out)) hb); clear HO_192000; clear BK190; clear BK191; clear HB; have HO_192000 := n0_; have HO209 := n1_; have HO213 := n2_; have BK190 := n3_; have BK191 := n4_; have HB := n5_; clear n0_ n1_ n2_ n3_ n4_ n5_; (try clear hb); (try clear hb2); (try clear hk); (try clear hi); (try clear ho0); (try clear ho1)) | ((with_reducible refine gate_dst (N := 12) rfl ?_); refine box_event ?hg (N := 12) ?hd (cs := #[.slice none 0 0, .int .i64 0]) (t := 26) ?hr ?_; (case hd => rfl); (case hg => rfl); (case hr => first | (go_simp; done) | (go_simp; rfl)); intro gb215 hg w73 hbox hb; have n0_ := Aside0.mk (Kd.R_below (by (with_reducible repeat (first | apply Kd.R_alloc | apply Kd.R_drewN | apply Kd.R_drew)); exact HO_192000.out) hb); have n1_ := Aside0.mk (Kd.R_below (by (with_reducible repeat (first | apply Kd.R_alloc | apply Kd.R_drewN | apply Kd.R_drew)); exact HO209.out) hb); have n2_ := Aside0.mk (Kd.R_below (by (with_reducible repeat (first | apply Kd.R_alloc | apply Kd.R_drewN | apply Kd.R_drew)); exact HO213.out) hb); have n3_ := Aside0.mk (blk_below (g := gb190) (o := .cells #[.slice none 0 0, .int .i64 0] 26 (0, 0)) (by (with_reducible repeat (first | refine blk_drewN ?_ _ | refine blk_drew ?_ | refine blk_alloc ?_ _)); exact BK190.out) hb); have n4_ := Aside0.mk (blk_below (g := gb191) (o := .cells #[.slice Ao10 x192000_1.length co10, .int .i64 x192001_1] 26 (0, 0)) (by (with_reducible repeat (first | refine blk_drewN ?_ _ | refine blk_drew ?_ | refine blk_alloc ?_ _)); exact BK191.out) hb); have n5_ := Aside0.mk (below_step (by repeat (first | (with_reducible first | exact HB.out | apply below_alloc | apply pw_below_drewN | apply below_drew1 | refine below_set ?_ GE190.out | refine below_set ?_ GE191.out) | exact HB.out)) hb); have n6_ := Aside0.mk (hbox); have n7_ := Aside0.mk ((by rw [hg]; exact (below_size (by repeat (first | (with_reducible first | exact HB.out | apply below_alloc | apply pw_below_drewN | apply below_drew1 | refine below_set ?_ GE190.out | refine below_set ?_ GE191.out) | exact HB.out))) : w.heap.size ≤ gb215)); have n8_ := Aside0.mk ((by rw [hg]; exact (below_size (by repeat (first | (with_reducible first | exact HB.out | apply below_alloc | apply pw_below_drewN | apply below_drew1 | refine below_set ?_ GE190.out | refine below_set ?_ GE191.out) | exact HB.out))) : w.heap.size ≤ gb215)); have n9_ := Aside0.mk ((by rw [hg]; exact Nat.ne_of_lt (blk_lt (g := gb190) (o := .cells #[.slice none 0 0, .int .i64 0] 26 (0, 0)) (by (with_reducible repeat (first | refine blk_drewN ?_ _ | refine blk_drew ?_ | refine blk_alloc ?_ _)); exact BK190.out)) : gb190 ≠ gb215)); have n10_ := Aside0.mk ((by rw [hg]; exact Nat.ne_of_gt (blk_lt (g := gb190) (o := .cells #[.slice none 0 0, .int .i64 0] 26 (0, 0)) (by (with_reducible repeat (first | refine blk_drewN ?_ _ | refine blk_drew ?_ | refine blk_alloc ?_ _)); exact BK190.out)) : gb215 ≠ gb190)); have n11_ := Aside0.mk ((by rw [hg]; exact Nat.ne_of_lt (blk_lt (g := gb191) (o := .cells #[.slice Ao10 x192000_1.length co10, .int .i64 x192001_1] 26 (0, 0)) (by (with_reducible repeat (first | refine blk_drewN ?_ _ | refine blk_drew ?_ | refine blk_alloc ?_ _)); exact BK191.out)) : gb191 ≠ gb215)); have n12_ := Aside0.mk ((by rw [hg]; exact Nat.ne_of_gt (blk_lt (g := gb191) (o := .cells #[.slice Ao10 x192000_1.length co10, .int .i64 x192001_1] 26 (0, 0)) (by (with_reducible repeat (first | refine blk_drewN ?_ _ | refine blk_drew ?_ | refine blk_alloc ?_ _)); exact BK191.out)) : gb215 ≠ gb191)); clear HO_192000; clear HO209; clear HO213; clear BK190; clear BK191; clear HB; have HO_192000 := n0_; have HO209 := n1_; have HO213 := n2_; have BK190 := n3_; have BK191 := n4_; have HB := n5_; have BK215 := n6_; have GW215 := n7_; have GE215 := n8_; have NB190_215 := n9_; have NB215_190 := n10_; have NB191_215 := n11_; have NB215_191 := n12_; clear n0_ n1_ n2_ n3_ n4_ n5_ n6_ n7_ n8_ n9_ n10_ n11_ n12_; clear hb hbox hg; obtain ⟨Ao74, co74, eo74⟩ := Kd.R_slice HO209.out; subst eo74; have hnb75 := NB215_190.out; have hnc75 := NB190_215.out; have hnb76 := NB215_191.out; have hnc76 := NB191_215.out; have hcz77_0 : w73.cell? ⟨gb215, 0, none⟩ = some (.slice none 0 0) := (blk_cell BK215.out 0).trans rfl; have hcz77_1 : w73.cell? ⟨gb215, 1, none⟩ = some (.int .i64 0) := (blk_cell BK215.out 1).trans rfl; have hfz77_0 := blk_frozen BK215.out 0; have hfz77_1 := blk_frozen BK215.out 1))
              go_roundg kj15
              case measure => have := HK1.out; have := HJ6.out; have := HJ15.out; omega
              case rel => exact ⟨(wrap64 (x4_1 + 1)), (x192000_1), (x192001_1), (.slice Ao10 x192000_1.length co10), (by first | rfl | (simp; done) | (simp [*]; done)), H', ⟨by have := HK1.out; have := HJ6.out; have := HJ15.out; omega⟩, ⟨by (with_reducible repeat (first | apply Kd.R_alloc | apply Kd.R_drewN | apply Kd.R_drew)); exact Kd.R_mono (Kd.R_far (p := ⟨gb215, 1, none⟩) (Kd.R_far (p := ⟨gb215, 0, none⟩) (Kd.R_types HO_192000.out BK215.out (by decide)) (fun _ hk => hk.2) (.slice Ao74 t207.length co74)) (fun _ hk => hk.2) (.int .i64 t210)) (fun _ hk => trivial)⟩, ⟨by (with_reducible repeat (first | refine blk_drewN ?_ _ | refine blk_drew ?_ | refine blk_alloc ?_ _)); refine blk_far ?_ NB190_215.out _; (with_reducible repeat (first | refine blk_drewN ?_ _ | refine blk_drew ?_ | refine blk_alloc ?_ _)); refine blk_far ?_ NB190_215.out _; (with_reducible repeat (first | refine blk_drewN ?_ _ | refine blk_drew ?_ | refine blk_alloc ?_ _)); exact BK190.out⟩, ⟨by (with_reducible repeat (first | refine blk_drewN ?_ _ | refine blk_drew ?_ | refine blk_alloc ?_ _)); refine blk_far ?_ NB191_215.out _; (with_reducible repeat (first | refine blk_drewN ?_ _ | refine blk_drew ?_ | refine blk_alloc ?_ _)); refine blk_far ?_ NB191_215.out _; (with_reducible repeat (first | refine blk_drewN ?_ _ | refine blk_drew ?_ | refine blk_alloc ?_ _)); exact BK191.out⟩, ⟨by repeat (first | (with_reducible first | exact HB.out | apply below_alloc | apply pw_below_drewN | apply below_drew1 | refine below_set ?_ GE190.out | refine below_set ?_ GE191.out | refine below_set ?_ GE215.out) | exact HB.out)⟩⟩
            ·rw [if_neg c58] at H
             have c58b0 : (((rd_T47 l0 x4_1).f0) == 3) = false := beq_eq_false_iff_ne.mpr c58
             have c58b1 : (((rd_T47 l0 x4_1).f0) != 3) = true := bne_iff_ne.mpr c58
             have H' := Aside0.mk H
             clear H
             go_wp2
             go_roundg kj15
             case measure => have := HK1.out; have := HJ6.out; have := HJ15.out; omega
             case rel => exact ⟨(wrap64 (x4_1 + 1)), (x192000_1), (x192001_1), (.slice Ao10 x192000_1.length co10), (by first | rfl | (simp; done) | (simp [*]; done)), H', ⟨by have := HK1.out; have := HJ6.out; have := HJ15.out; omega⟩, ⟨by (with_reducible repeat (first | apply Kd.R_alloc | apply Kd.R_drewN | apply Kd.R_drew)); exact HO_192000.out⟩, ⟨by (with_reducible repeat (first | refine blk_drewN ?_ _ | refine blk_drew ?_ | refine blk_alloc ?_ _)); exact BK190.out⟩, ⟨by (with_reducible repeat (first | refine blk_drewN ?_ _ | refine blk_drew ?_ | refine blk_alloc ?_ _)); exact BK191.out⟩, ⟨by repeat (first | (with_reducible first | exact HB.out | apply below_alloc | apply pw_below_drewN | apply below_drew1 | refine below_set ?_ GE190.out | refine below_set ?_ GE191.out) | exact HB.out)⟩⟩
       ·rw [if_neg c15] at H
        exact absurd H (by simp)
      ·rw [if_neg c14] at H
       exact absurd H (by simp)
   ·rw [if_neg c6] at H
    have c6b0 : decide (x4_1 < (l0.length : Int)) = false := decide_eq_false c6
    clear c6
    simp only [Option.some.injEq, Prod.mk.injEq] at H
    obtain ⟨rfl, rfl⟩ := H
    have hnb78 := NB191_190.out
    have hnc78 := NB190_191.out
    have hcz79_0 : wr.cell? ⟨gb191, 0, none⟩ = some (u192000) := (blk_cell BK191.out 0).trans rfl
    have hcz79_1 : wr.cell? ⟨gb191, 1, none⟩ = some (.int .i64 x192001_1) := (blk_cell BK191.out 1).trans rfl
    have hfz79_0 := blk_frozen BK191.out 0
    have hfz79_1 := blk_frozen BK191.out 1
    obtain ⟨Ao80, co80, eo80⟩ := Kd.R_slice HO_192000.out
    subst eo80
    have hcz81_0 : wr.cell? ⟨gb190, 0, none⟩ = some (.slice none 0 0) := (blk_cell BK190.out 0).trans rfl
    have hcz81_1 : wr.cell? ⟨gb190, 1, none⟩ = some (.int .i64 0) := (blk_cell BK190.out 1).trans rfl
    have hfz81_0 := blk_frozen BK190.out 0
    have hfz81_1 := blk_frozen BK190.out 1
    go_wp2
    refine bodyPost_ret (results_cell_row rfl _ _ gb190 26 #[.slice Ao80 x192000_1.length co80, .int .i64 x192001_1] (0, 0) _ rfl (by (with_reducible repeat (first | refine blk_drewN ?_ _ | refine blk_drew ?_ | refine blk_alloc ?_ _)); refine blk_put (cs := #[.slice Ao80 x192000_1.length co80, .int .i64 0]) ?_ 1 _ rfl; (with_reducible repeat (first | refine blk_drewN ?_ _ | refine blk_drew ?_ | refine blk_alloc ?_ _)); refine blk_put (cs := #[.slice none 0 0, .int .i64 0]) ?_ 0 _ rfl; (with_reducible repeat (first | refine blk_drewN ?_ _ | refine blk_drew ?_ | refine blk_alloc ?_ _)); exact BK190.out) Try.underlying26 rfl (by kernel_rfl)) rfl ?_
    exact ⟨_, by first | rfl | (simp [errW_none, errW_some] <;> rfl) | (simp [*, errW_none, errW_some] <;> rfl), by (with_reducible repeat (first | apply Kd.R_alloc | apply Kd.R_drewN | apply Kd.R_drew)); exact Kd.R_mono (Kd.R_far (p := ⟨gb190, 1, none⟩) (Kd.R_far (p := ⟨gb190, 0, none⟩) (Kd.R_types HO_192000.out BK190.out (by decide)) (fun _ hk => hk.2) (.slice Ao80 x192000_1.length co80)) (fun _ hk => hk.2) (.int .i64 x192001_1)) (fun _ hk => trivial), by repeat (first | (with_reducible first | exact HB.out | apply below_alloc | apply pw_below_drewN | apply below_drew1 | refine below_set ?_ GE190.out | refine below_set ?_ GE191.out) | exact HB.out)⟩

end Go.Proofs.Ytnlnglfjehohpaa.Q
