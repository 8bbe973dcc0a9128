-- Cut to what one claim reaches, out of what the kit's print laid for this seat (wip/tools/trim.py).
import Derived.Test.YtjpoepiidmoegaaQ0
import Derived.Test.YtjpoepiidmoegaaQ14
import Derived.Test.YtjpoepiidmoegaaQ17
import Derived.Test.YtjpoepiidmoegaaQS
namespace Go.Proofs.Ytjpoepiidmoegaa.Q
open Go.RowKit Go.Proofs.YtjpoepiidmoegaaW.PrintWords Go.Proofs.YtjpoepiidmoegaaW.PrintLast Go.Proofs.YtjpoepiidmoegaaW.PrintMore
attribute [local go_sem] max2_int min2_int max_two min_two max_three min_three max_four min_four   -- for this text's walks alone
set_option linter.unusedVariables false
set_option linter.unusedSimpArgs false

def heronryref15_Do.j0 : Nat → Bool → List (S83) → Int → Int → Int → Bool → Option ((List (S83)) × Int)
 | 0, _, _, _, _, _, _ => none
 | k + 1, x23, x368000, x370000, x370001, x370002, x370003 => if x23 = true then (some (([] : List (S83)), 1)) else ((some (([] : List (S83)) : List (S83))).bind fun y372 => (if y372.length + x368000.length < 4398046511104 then ((some (y372 ++ x368000 : List (S83))).bind fun y375 => (if y375.length < 4398046511104 then ((some (y375 ++ [(⟨x370000, x370001, x370002, x370003⟩ : S83)] : List (S83))).bind fun y378 => ((heronryref15_Sane.f k y378).bind fun t381 => (if t381 = true then (some (y378, 0)) else (some (([] : List (S83)), 13))))) else (none))) else (none)))
def heronryref15_Do.f (k : Nat) (l0_0 : List (S83)) (a1 : Int) (a2 : Int) (a3 : Int) : Option ((List (S83)) × Int) := (heronryref15_Sane.f k l0_0).bind fun t370 => (if t370 = true then ((heronryref15_one.f a1 a2 a3 false).bind fun t371 => (heronryref15_Do.j0 k (!t371) l0_0 a1 a2 a3 false)) else (heronryref15_Do.j0 k true l0_0 a1 a2 a3 false))
set_option maxHeartbeats 8000000 in
set_option maxRecDepth 100000 in
theorem heronryref15_Do.calls (k : Nat) (A0_0 : Option Addr) (c0_0 : Nat) (l0_0 : List (S83)) (a1 : Int) (a2 : Int) (a3 : Int) (r1 : List (S83)) (r2 : Int) (w : World) (hr0_0 : Kd.C k83 w A0_0 l0_0.length l0_0) (hc0_0 : l0_0.length ≤ c0_0) (h : heronryref15_Do.f k l0_0 a1 a2 a3 = some (r1, r2)) :
  Calls Try.prog 22 #[.agg #[.slice A0_0 l0_0.length c0_0], .int .i64 a1, .int .i64 a2, .int .i64 a3] w fun e w' => ∃ v0_ : Value, e = .returned (.tuple #[.agg #[v0_], .int .i64 r2]) ∧ Kd.R k83 83 w' w.heap.size (fun _ => True) v0_ r1 ∧ Below w.heap.size w w' := by
 have hu58 := Try.underlying58
 have hu83 := Try.underlying83
 have HR0_0 := am_ hr0_0
 have HC0_0 := am_ hc0_0
 clear hr0_0 hc0_0
 have HB := am_ (Below.refl w.heap.size w)
 have H : ((heronryref15_Sane.f k l0_0).bind fun t370 => (if t370 = true then ((heronryref15_one.f a1 a2 a3 false).bind fun t371 => (heronryref15_Do.j0 k (!t371) l0_0 a1 a2 a3 false)) else (heronryref15_Do.j0 k true l0_0 a1 a2 a3 false))) = some (r1, r2) := h
 clear h
 have HC5 := am_ H
 clear H
 go_enter Try.func22, Try.ntmps22
 go_upto_region 2 with (first | ((with_reducible refine gate_dst (N := 4) rfl ?_); refine box_event ?hg (N := 4) ?hd (cs := #[.slice A0_0 l0_0.length c0_0]) (t := 58) ?hr ?_; (case hd => rfl); (case hg => rfl); (case hr => first | (go_simp; done) | (go_simp; rfl)); intro gb367 hg w6 hbox hb; have n0_ := am_ (below_step (be_ HB.out) hb); have n1_ := am_ (hbox); have n2_ := am_ ((by rw [hg]; exact (below_size (be_ HB.out)) : w.heap.size ≤ gb367)); have n3_ := am_ ((by rw [hg]; exact (below_size (be_ HB.out)) : w.heap.size ≤ gb367)); clear HB; have HB := n0_; have BK367 := n1_; have GW367 := n2_; have GE367 := n3_; clear n0_ n1_ n2_ n3_; clear hb hbox hg) | ((with_reducible refine gate_dst (N := 8) rfl ?_); refine box_event ?hg (N := 8) ?hd (cs := #[.slice none 0 0]) (t := 58) ?hr ?_; (case hd => rfl); (case hg => rfl); (case hr => first | (go_simp; done) | (go_simp; rfl)); intro gb368 hg w7 hbox hb; have n0_ := am_ (bb_ BK367.out hb); have n1_ := am_ (below_step (be_ HB.out) hb); have n2_ := am_ (hbox); have n3_ := am_ ((by rw [hg]; exact (below_size (be_ HB.out)) : w.heap.size ≤ gb368)); have n4_ := am_ ((by rw [hg]; exact (below_size (be_ HB.out)) : w.heap.size ≤ gb368)); have n5_ := am_ ((by rw [hg]; exact Nat.ne_of_lt (bl_ BK367.out) : gb367 ≠ gb368)); have n6_ := am_ ((by rw [hg]; exact Nat.ne_of_gt (bl_ BK367.out) : gb368 ≠ gb367)); clear BK367; clear HB; have BK367 := n0_; have HB := n1_; have BK368 := n2_; have GW368 := n3_; have GE368 := n4_; have NB367_368 := n5_; have NB368_367 := n6_; clear n0_ n1_ n2_ n3_ n4_ n5_ n6_; clear hb hbox hg) | ((with_reducible refine gate_dst (N := 10) rfl ?_); refine box_event ?hg (N := 10) ?hd (cs := #[.int .i64 0, .int .i64 0, .int .i64 0, .bool false]) (t := 83) ?hr ?_; (case hd => rfl); (case hg => rfl); (case hr => first | (go_simp; done) | (go_simp; rfl)); intro gb369 hg w8 hbox hb; have n0_ := am_ (bb_ BK367.out hb); have n1_ := am_ (bb_ BK368.out hb); have n2_ := am_ (below_step (be_ HB.out) hb); have n3_ := am_ (hbox); have n4_ := am_ ((by rw [hg]; exact (below_size (be_ HB.out)) : w.heap.size ≤ gb369)); have n5_ := am_ ((by rw [hg]; exact (below_size (be_ HB.out)) : w.heap.size ≤ gb369)); have n6_ := am_ ((by rw [hg]; exact Nat.ne_of_lt (bl_ BK367.out) : gb367 ≠ gb369)); have n7_ := am_ ((by rw [hg]; exact Nat.ne_of_gt (bl_ BK367.out) : gb369 ≠ gb367)); have n8_ := am_ ((by rw [hg]; exact Nat.ne_of_lt (bl_ BK368.out) : gb368 ≠ gb369)); have n9_ := am_ ((by rw [hg]; exact Nat.ne_of_gt (bl_ BK368.out) : gb369 ≠ gb368)); clear BK367; clear BK368; clear HB; have BK367 := n0_; have BK368 := n1_; have HB := n2_; have BK369 := n3_; have GW369 := n4_; have GE369 := n5_; have NB367_369 := n6_; have NB369_367 := n7_; have NB368_369 := n8_; have NB369_368 := n9_; clear n0_ n1_ n2_ n3_ n4_ n5_ n6_ n7_ n8_ n9_; clear hb hbox hg; have hnb9 := NB369_367.out; have hnc9 := NB367_369.out; have hnb10 := NB369_368.out; have hnc10 := NB368_369.out; have hcz11_0 : w8.cell? ⟨gb369, 0, none⟩ = some (.int .i64 0) := (blk_cell BK369.out 0).trans rfl; have hcz11_1 : w8.cell? ⟨gb369, 1, none⟩ = some (.int .i64 0) := (blk_cell BK369.out 1).trans rfl; have hcz11_2 : w8.cell? ⟨gb369, 2, none⟩ = some (.int .i64 0) := (blk_cell BK369.out 2).trans rfl; have hcz11_3 : w8.cell? ⟨gb369, 3, none⟩ = some (.bool false) := (blk_cell BK369.out 3).trans rfl; have hfz11_0 := blk_frozen BK369.out 0; have hfz11_1 := blk_frozen BK369.out 1; have hfz11_2 := blk_frozen BK369.out 2; have hfz11_3 := blk_frozen BK369.out 3))
 (try simp only [Act.put, List.setIfInBounds_toArray, List.set_cons_zero, List.set_cons_succ])
 go_cut [23] (fun v23 wc => ∃ (kq : Nat) (x23_4 : Bool), v23 = .bool x23_4 ∧ Aside0 (heronryref15_Do.j0 kq x23_4 l0_0 a1 a2 a3 false = some (r1, r2)) ∧ Aside0 (kq ≤ k) ∧ Aside0 (wc.heap[gb367]? = some (.cells #[(.slice A0_0 l0_0.length c0_0)] 58 (0, 0))) ∧ Aside0 (wc.heap[gb368]? = some (.cells #[(.slice none 0 0)] 58 (0, 0))) ∧ Aside0 (wc.heap[gb369]? = some (.cells #[.int .i64 a1, .int .i64 a2, .int .i64 a3, .bool false] 83 (0, 0))) ∧ Aside0 (Below w.heap.size w wc))
 case first =>
  have H := HC5.out
  clear HC5
  replace H := Option.bind_eq_some_iff.mp H
  obtain ⟨t370, A120, H⟩ := H
  replace H : (if t370 = true then ((heronryref15_one.f a1 a2 a3 false).bind fun t371 => (heronryref15_Do.j0 k (!t371) l0_0 a1 a2 a3 false)) else (heronryref15_Do.j0 k true l0_0 a1 a2 a3 false)) = some (r1, r2) := H
  have A12 := am_ A120
  clear A120
  by_cases c13 : t370 = true
  ·subst c13
   have H1 : ((heronryref15_one.f a1 a2 a3 false).bind fun t371 => (heronryref15_Do.j0 k (!t371) l0_0 a1 a2 a3 false)) = some (r1, r2) := by rw [if_pos rfl] at H; exact H
   clear H
   have H := H1
   clear H1
   replace H := Option.bind_eq_some_iff.mp H
   obtain ⟨t371, A140, H⟩ := H
   replace H : (heronryref15_Do.j0 k (!t371) l0_0 a1 a2 a3 false) = some (r1, r2) := H
   have A14 := am_ A140
   clear A140
   have H' := am_ H
   clear H
   have hnb15 := NB367_368.out
   have hnc15 := NB368_367.out
   have hnb16 := NB367_369.out
   have hnc16 := NB369_367.out
   have hcz17_0 : w8.cell? ⟨gb367, 0, none⟩ = some (.slice A0_0 l0_0.length c0_0) := (blk_cell BK367.out 0).trans rfl
   have hfz17_0 := blk_frozen BK367.out 0
   go_wp2_with (first | ((with_reducible refine gate_callee (f := 23) rfl ?_); refine goesL_ (some 17) rfl rfl Try.func23 (by kernel_rfl) rfl #[.agg #[.slice A0_0 l0_0.length c0_0]] rfl ma_ ?_; (with_reducible refine (heronryref15_Sane.calls k _ _ l0_0 true _ ?side1 ?side2 A12.out).mono ?_); (case side1 => exact Kd.C_below HR0_0.out (be_ HB.out)); (case side2 => exact HC0_0.out); rintro e w18 ⟨rfl, hb⟩; refine ⟨_, rfl, ?_⟩; have n0_ := am_ (blk_below (g := gb367) (o := .cells #[.slice A0_0 l0_0.length c0_0] 58 (0, 0)) (by (with_reducible repeat (first | refine blk_drewN ?_ _ | refine blk_drew ?_ | refine blk_alloc ?_ _)); refine blk_far ?_ NB367_369.out _; (with_reducible repeat (first | refine blk_drewN ?_ _ | refine blk_drew ?_ | refine blk_alloc ?_ _)); refine blk_far ?_ NB367_369.out _; (with_reducible repeat (first | refine blk_drewN ?_ _ | refine blk_drew ?_ | refine blk_alloc ?_ _)); refine blk_far ?_ NB367_369.out _; (with_reducible repeat (first | refine blk_drewN ?_ _ | refine blk_drew ?_ | refine blk_alloc ?_ _)); refine blk_far ?_ NB367_369.out _; (with_reducible repeat (first | refine blk_drewN ?_ _ | refine blk_drew ?_ | refine blk_alloc ?_ _)); exact BK367.out) hb); have n1_ := am_ (blk_below (g := gb368) (o := .cells #[.slice none 0 0] 58 (0, 0)) (by (with_reducible repeat (first | refine blk_drewN ?_ _ | refine blk_drew ?_ | refine blk_alloc ?_ _)); refine blk_far ?_ NB368_369.out _; (with_reducible repeat (first | refine blk_drewN ?_ _ | refine blk_drew ?_ | refine blk_alloc ?_ _)); refine blk_far ?_ NB368_369.out _; (with_reducible repeat (first | refine blk_drewN ?_ _ | refine blk_drew ?_ | refine blk_alloc ?_ _)); refine blk_far ?_ NB368_369.out _; (with_reducible repeat (first | refine blk_drewN ?_ _ | refine blk_drew ?_ | refine blk_alloc ?_ _)); refine blk_far ?_ NB368_369.out _; (with_reducible repeat (first | refine blk_drewN ?_ _ | refine blk_drew ?_ | refine blk_alloc ?_ _)); exact BK368.out) hb); have n2_ := am_ (blk_below (g := gb369) (o := .cells #[.int .i64 a1, .int .i64 a2, .int .i64 a3, .bool false] 83 (0, 0)) (by (with_reducible repeat (first | refine blk_drewN ?_ _ | refine blk_drew ?_ | refine blk_alloc ?_ _)); refine blk_put (cs := #[.int .i64 a1, .int .i64 a2, .int .i64 a3, .bool false]) ?_ 3 _ rfl; (with_reducible repeat (first | refine blk_drewN ?_ _ | refine blk_drew ?_ | refine blk_alloc ?_ _)); refine blk_put (cs := #[.int .i64 a1, .int .i64 a2, .int .i64 0, .bool false]) ?_ 2 _ rfl; (with_reducible repeat (first | refine blk_drewN ?_ _ | refine blk_drew ?_ | refine blk_alloc ?_ _)); refine blk_put (cs := #[.int .i64 a1, .int .i64 0, .int .i64 0, .bool false]) ?_ 1 _ rfl; (with_reducible repeat (first | refine blk_drewN ?_ _ | refine blk_drew ?_ | refine blk_alloc ?_ _)); refine blk_put (cs := #[.int .i64 0, .int .i64 0, .int .i64 0, .bool false]) ?_ 0 _ rfl; (with_reducible repeat (first | refine blk_drewN ?_ _ | refine blk_drew ?_ | refine blk_alloc ?_ _)); exact BK369.out) hb); have n3_ := am_ (below_step (be_ HB.out) hb); clear BK367; clear BK368; clear BK369; clear HB; have BK367 := n0_; have BK368 := n1_; have BK369 := n2_; have HB := n3_; clear n0_ n1_ n2_ n3_; (try clear hb); (try clear hb2); (try clear hk); (try clear hi); have hnb19 := NB369_368.out; have hnc19 := NB368_369.out; have hcz20_0 : w18.cell? ⟨gb369, 0, none⟩ = some (.int .i64 a1) := (blk_cell BK369.out 0).trans rfl; have hcz20_1 : w18.cell? ⟨gb369, 1, none⟩ = some (.int .i64 a2) := (blk_cell BK369.out 1).trans rfl; have hcz20_2 : w18.cell? ⟨gb369, 2, none⟩ = some (.int .i64 a3) := (blk_cell BK369.out 2).trans rfl; have hcz20_3 : w18.cell? ⟨gb369, 3, none⟩ = some (.bool false) := (blk_cell BK369.out 3).trans rfl; have hfz20_0 := blk_frozen BK369.out 0; have hfz20_1 := blk_frozen BK369.out 1; have hfz20_2 := blk_frozen BK369.out 2; have hfz20_3 := blk_frozen BK369.out 3) | (go_at_call 49; (with_reducible refine (heronryref15_one.calls a1 a2 a3 false t371 _ A14.out).mono ?_); rintro e w21 ⟨rfl, hb⟩; have n0_ := am_ (bb_ BK367.out hb); have n1_ := am_ (bb_ BK368.out hb); have n2_ := am_ (bb_ BK369.out hb); have n3_ := am_ (below_step (be_ HB.out) hb); clear BK367; clear BK368; clear BK369; clear HB; have BK367 := n0_; have BK368 := n1_; have BK369 := n2_; have HB := n3_; clear n0_ n1_ n2_ n3_; (try clear hb); (try clear hb2); (try clear hk); (try clear hi)))
   go_meet
   case rel => exact ⟨_, (!t371), (by first | rfl | (simp; done) | (simp [*]; done)), H', ⟨by first | omega | exact Nat.le_refl _⟩, ⟨bk_ BK367.out⟩, ⟨bk_ BK368.out⟩, ⟨bk_ BK369.out⟩, ⟨be_ HB.out⟩⟩
  ·replace c13 := Bool.eq_false_iff.mpr c13
   subst c13
   have H1 : (heronryref15_Do.j0 k true l0_0 a1 a2 a3 false) = some (r1, r2) := by rw [if_neg (show ¬ (false = true) by decide)] at H; exact H
   clear H
   have H := H1
   clear H1
   have H' := am_ H
   clear H
   have hnb22 := NB367_368.out
   have hnc22 := NB368_367.out
   have hnb23 := NB367_369.out
   have hnc23 := NB369_367.out
   have hcz24_0 : w8.cell? ⟨gb367, 0, none⟩ = some (.slice A0_0 l0_0.length c0_0) := (blk_cell BK367.out 0).trans rfl
   have hfz24_0 := blk_frozen BK367.out 0
   go_wp2_with (first | ((with_reducible refine gate_callee (f := 23) rfl ?_); refine goesL_ (some 17) rfl rfl Try.func23 (by kernel_rfl) rfl #[.agg #[.slice A0_0 l0_0.length c0_0]] rfl ma_ ?_; (with_reducible refine (heronryref15_Sane.calls k _ _ l0_0 false _ ?side1 ?side2 A12.out).mono ?_); (case side1 => exact Kd.C_below HR0_0.out (be_ HB.out)); (case side2 => exact HC0_0.out); rintro e w25 ⟨rfl, hb⟩; refine ⟨_, rfl, ?_⟩; have n0_ := am_ (blk_below (g := gb367) (o := .cells #[.slice A0_0 l0_0.length c0_0] 58 (0, 0)) (by (with_reducible repeat (first | refine blk_drewN ?_ _ | refine blk_drew ?_ | refine blk_alloc ?_ _)); refine blk_far ?_ NB367_369.out _; (with_reducible repeat (first | refine blk_drewN ?_ _ | refine blk_drew ?_ | refine blk_alloc ?_ _)); refine blk_far ?_ NB367_369.out _; (with_reducible repeat (first | refine blk_drewN ?_ _ | refine blk_drew ?_ | refine blk_alloc ?_ _)); refine blk_far ?_ NB367_369.out _; (with_reducible repeat (first | refine blk_drewN ?_ _ | refine blk_drew ?_ | refine blk_alloc ?_ _)); refine blk_far ?_ NB367_369.out _; (with_reducible repeat (first | refine blk_drewN ?_ _ | refine blk_drew ?_ | refine blk_alloc ?_ _)); exact BK367.out) hb); have n1_ := am_ (blk_below (g := gb368) (o := .cells #[.slice none 0 0] 58 (0, 0)) (by (with_reducible repeat (first | refine blk_drewN ?_ _ | refine blk_drew ?_ | refine blk_alloc ?_ _)); refine blk_far ?_ NB368_369.out _; (with_reducible repeat (first | refine blk_drewN ?_ _ | refine blk_drew ?_ | refine blk_alloc ?_ _)); refine blk_far ?_ NB368_369.out _; (with_reducible repeat (first | refine blk_drewN ?_ _ | refine blk_drew ?_ | refine blk_alloc ?_ _)); refine blk_far ?_ NB368_369.out _; (with_reducible repeat (first | refine blk_drewN ?_ _ | refine blk_drew ?_ | refine blk_alloc ?_ _)); refine blk_far ?_ NB368_369.out _; (with_reducible repeat (first | refine blk_drewN ?_ _ | refine blk_drew ?_ | refine blk_alloc ?_ _)); exact BK368.out) hb); have n2_ := am_ (blk_below (g := gb369) (o := .cells #[.int .i64 a1, .int .i64 a2, .int .i64 a3, .bool false] 83 (0, 0)) (by (with_reducible repeat (first | refine blk_drewN ?_ _ | refine blk_drew ?_ | refine blk_alloc ?_ _)); refine blk_put (cs := #[.int .i64 a1, .int .i64 a2, .int .i64 a3, .bool false]) ?_ 3 _ rfl; (with_reducible repeat (first | refine blk_drewN ?_ _ | refine blk_drew ?_ | refine blk_alloc ?_ _)); refine blk_put (cs := #[.int .i64 a1, .int .i64 a2, .int .i64 0, .bool false]) ?_ 2 _ rfl; (with_reducible repeat (first | refine blk_drewN ?_ _ | refine blk_drew ?_ | refine blk_alloc ?_ _)); refine blk_put (cs := #[.int .i64 a1, .int .i64 0, .int .i64 0, .bool false]) ?_ 1 _ rfl; (with_reducible repeat (first | refine blk_drewN ?_ _ | refine blk_drew ?_ | refine blk_alloc ?_ _)); refine blk_put (cs := #[.int .i64 0, .int .i64 0, .int .i64 0, .bool false]) ?_ 0 _ rfl; (with_reducible repeat (first | refine blk_drewN ?_ _ | refine blk_drew ?_ | refine blk_alloc ?_ _)); exact BK369.out) hb); have n3_ := am_ (below_step (be_ HB.out) hb); clear BK367; clear BK368; clear BK369; clear HB; have BK367 := n0_; have BK368 := n1_; have BK369 := n2_; have HB := n3_; clear n0_ n1_ n2_ n3_; (try clear hb); (try clear hb2); (try clear hk); (try clear hi)))
   go_meet
   case rel => exact ⟨_, (true), (by first | rfl | (simp; done) | (simp [*]; done)), H', ⟨by first | omega | exact Nat.le_refl _⟩, ⟨bk_ BK367.out⟩, ⟨bk_ BK368.out⟩, ⟨bk_ BK369.out⟩, ⟨be_ HB.out⟩⟩
 case rest =>
  clear HC5
  try clear c1
  try clear c2
  try clear p2
  try clear c9
  try clear c10
  try clear c13
  try clear c15
  try clear c16
  try clear c19
  try clear c22
  try clear c23
  try clear hcz11_0
  try clear hcz11_1
  try clear hcz11_2
  try clear hcz11_3
  try clear hcz17_0
  try clear hcz20_0
  try clear hcz20_1
  try clear hcz20_2
  try clear hcz20_3
  try clear hcz24_0
  try clear hfz11_0
  try clear hfz11_1
  try clear hfz11_2
  try clear hfz11_3
  try clear hfz17_0
  try clear hfz20_0
  try clear hfz20_1
  try clear hfz20_2
  try clear hfz20_3
  try clear hfz24_0
  obtain ⟨kq, x23_4, rfl, HA, HJ4, BK367, BK368, BK369, HB⟩ := hcut
  cases kq with
  | zero => exact absurd HA.out (by simp [heronryref15_Do.j0])
  | succ kj4 =>
   have H := HA.out
   clear HA
   simp only [heronryref15_Do.j0] at H
   by_cases c26 : x23_4 = true
   ·subst c26
    have H1 : (some (([] : List (S83)), 1)) = some (r1, r2) := by rw [if_pos rfl] at H; exact H
    clear H
    have H := H1
    clear H1
    simp only [Option.some.injEq, Prod.mk.injEq] at H
    obtain ⟨rfl, rfl⟩ := H
    have hnb27 := NB368_367.out
    have hnc27 := NB367_368.out
    have hnb28 := NB368_369.out
    have hnc28 := NB369_368.out
    have hcz29_0 : wc.cell? ⟨gb368, 0, none⟩ = some (.slice none 0 0) := (blk_cell BK368.out 0).trans rfl
    have hfz29_0 := blk_frozen BK368.out 0
    go_wp2
    refine bodyPost_ret (results_ct rfl _ _ gb368 58 #[.slice none 0 0] (0, 0) _ rfl (by (with_reducible repeat (first | refine blk_drewN ?_ _ | refine blk_drew ?_ | refine blk_alloc ?_ _)); refine blk_put (cs := #[.slice none 0 0]) ?_ 0 _ rfl; (with_reducible repeat (first | refine blk_drewN ?_ _ | refine blk_drew ?_ | refine blk_alloc ?_ _)); exact BK368.out) Try.underlying58 rfl (by kernel_rfl)) rfl ?_
    exact ⟨_, by first | rfl | (simp [errW_none, errW_some] <;> rfl) | (simp [*, errW_none, errW_some] <;> rfl), by first | exact Kd.R_nil _ _ _ _ _ | exact Kd.N_nil _ _ _ _ _ | exact Kd.V_nil _ _ _ _ _ | exact Kd.Q_nil _ _ _ _ _ | exact Kd.S_nil _ _ _ _ _, be_ HB.out⟩
   ·replace c26 := Bool.eq_false_iff.mpr c26
    subst c26
    have H1 : ((some (([] : List (S83)) : List (S83))).bind fun y372 => (if y372.length + l0_0.length < 4398046511104 then ((some (y372 ++ l0_0 : List (S83))).bind fun y375 => (if y375.length < 4398046511104 then ((some (y375 ++ [(⟨a1, a2, a3, false⟩ : S83)] : List (S83))).bind fun y378 => ((heronryref15_Sane.f kj4 y378).bind fun t381 => (if t381 = true then (some (y378, 0)) else (some (([] : List (S83)), 13))))) else (none))) else (none))) = some (r1, r2) := by rw [if_neg (show ¬ (false = true) by decide)] at H; exact H
    clear H
    have H := H1
    clear H1
    obtain ⟨y372, hy372⟩ : ∃ y_ : List (S83), y_ = (([] : List (S83))) := ⟨_, rfl⟩
    replace H : (if y372.length + l0_0.length < 4398046511104 then ((some (y372 ++ l0_0 : List (S83))).bind fun y375 => (if y375.length < 4398046511104 then ((some (y375 ++ [(⟨a1, a2, a3, false⟩ : S83)] : List (S83))).bind fun y378 => ((heronryref15_Sane.f kj4 y378).bind fun t381 => (if t381 = true then (some (y378, 0)) else (some (([] : List (S83)), 13))))) else (none))) else (none)) = some (r1, r2) := by first | (rw [hy372]; with_reducible exact H) | (have H2_ := (Option.bind_some _ _).symm.trans H; rw [hy372]; with_reducible exact H2_) | (have H2_ := (Option.bind_some _ _).symm.trans H; with_reducible exact H2_) | with_reducible exact H | (rw [hy372]; exact H) | exact H
    have Ny372 := am_ hy372
    clear hy372
    by_cases c30 : y372.length + l0_0.length < 4398046511104
    ·rw [if_pos c30] at H
     have LMc30 := am_ c30
     clear c30
     obtain ⟨y375, hy375⟩ : ∃ y_ : List (S83), y_ = (y372 ++ l0_0) := ⟨_, rfl⟩
     replace H : (if y375.length < 4398046511104 then ((some (y375 ++ [(⟨a1, a2, a3, false⟩ : S83)] : List (S83))).bind fun y378 => ((heronryref15_Sane.f kj4 y378).bind fun t381 => (if t381 = true then (some (y378, 0)) else (some (([] : List (S83)), 13))))) else (none)) = some (r1, r2) := by first | (rw [hy375]; with_reducible exact H) | (have H2_ := (Option.bind_some _ _).symm.trans H; rw [hy375]; with_reducible exact H2_) | (have H2_ := (Option.bind_some _ _).symm.trans H; with_reducible exact H2_) | with_reducible exact H | (rw [hy375]; exact H) | exact H
     have Ny375 := am_ hy375
     clear hy375
     by_cases c31 : y375.length < 4398046511104
     ·rw [if_pos c31] at H
      have LMc31 := am_ c31
      clear c31
      obtain ⟨y378, hy378⟩ : ∃ y_ : List (S83), y_ = (y375 ++ [(⟨a1, a2, a3, false⟩ : S83)]) := ⟨_, rfl⟩
      replace H : ((heronryref15_Sane.f kj4 y378).bind fun t381 => (if t381 = true then (some (y378, 0)) else (some (([] : List (S83)), 13)))) = some (r1, r2) := by first | (rw [hy378]; with_reducible exact H) | (have H2_ := (Option.bind_some _ _).symm.trans H; rw [hy378]; with_reducible exact H2_) | (have H2_ := (Option.bind_some _ _).symm.trans H; with_reducible exact H2_) | with_reducible exact H | (rw [hy378]; exact H) | exact H
      have Ny378 := am_ hy378
      clear hy378
      replace H := Option.bind_eq_some_iff.mp H
      obtain ⟨t381, A320, H⟩ := H
      replace H : (if t381 = true then (some (y378, 0)) else (some (([] : List (S83)), 13))) = some (r1, r2) := H
      have A32 := am_ A320
      clear A320
      by_cases c33 : t381 = true
      ·subst c33
       have H1 : (some (y378, 0)) = some (r1, r2) := by rw [if_pos rfl] at H; exact H
       clear H
       have H := H1
       clear H1
       simp only [Option.some.injEq, Prod.mk.injEq] at H
       obtain ⟨rfl, rfl⟩ := H
       go_wp2_with (first | ((with_reducible refine gate_dst (N := 25) rfl ?_); refine Kd.R_lit k83 _ 83 ?hg (N := 25) ?hd (xs := ([] : List (S83))) (inner := []) (ok := fun _ => True) (okp := fun _ => True) ?hr ?hp (fun _ hk => hk) trivial (Below.refl _ _) (Nat.le_refl _) (by simp) ?_; (case hd => rfl); (case hg => rfl); (case hr => first | (go_simp; done) | (go_simp; rfl)); (case hp => exact (Reps.none _ _)); intro v373 w34 ho35 hb hg_ hnew_; clear hg_ hnew_; (first | rw [← Ny372.out] at ho35 | (simp only [Int.reduceToNat] at ho35; rw [← Ny372.out] at ho35)); have n0_ := am_ (Kd.R_lower (Kd.R_newB ho35 (g := gb369) (o := .cells #[.int .i64 a1, .int .i64 a2, .int .i64 a3, .bool false] 83 (0, 0)) (bk_ BK369.out)) (below_size (be_ HB.out))); have n1_ := am_ (bb_ BK367.out hb); have n2_ := am_ (bb_ BK368.out hb); have n3_ := am_ (bb_ BK369.out hb); have n4_ := am_ (below_step (be_ HB.out) hb); clear BK367; clear BK368; clear BK369; clear HB; have HO374 := n0_; have BK367 := n1_; have BK368 := n2_; have BK369 := n3_; have HB := n4_; clear n0_ n1_ n2_ n3_ n4_; clear hb ho35; have hnb36 := NB367_368.out; have hnc36 := NB368_367.out; have hnb37 := NB367_369.out; have hnc37 := NB369_367.out; have hcz38_0 : w34.cell? ⟨gb367, 0, none⟩ = some (.slice A0_0 l0_0.length c0_0) := (blk_cell BK367.out 0).trans rfl; have hfz38_0 := blk_frozen BK367.out 0) | ((with_reducible refine gate_builtin (b := .append) (xs := #[.tmp 25, .tmp 27]) rfl ?_); at_builtin; refine Kd.R_append_rows k83 (w0 := w) w.heap.size rfl (.tmp 25) (.tmp 27) 37 83 (.agg #[(.int .i64 0), (.int .i64 0), (.int .i64 0), (.bool false)]) 32 rfl Try.underlying37 info83 rfl (by decide) (by omega) v373 y372 l0_0 _ _ _ (fun k_ => k_ ≠ gb369) (fun _ => False) rfl rfl ?aO ?aR (fun _ _ h => h) (fun _ h => h.elim) ?aF ?aB ?aS ?aL ?_; (case aR => repeat (first | exact (Kd.C_below HR0_0.out HB.out) | (with_reducible refine Kd.C_alloc ?_ _) | (with_reducible refine Kd.C_drewN ?_ _) | (with_reducible refine Kd.C_drew ?_))); (case aB => exact (be_ HB.out)); (case aF => exact (fun k_ hk => Kd.freshB (g := gb369) (o := .cells #[.int .i64 a1, .int .i64 a2, .int .i64 a3, .bool false] 83 (0, 0)) (bk_ BK369.out) k_ hk)); (case aO => exact (by (with_reducible repeat (first | apply Kd.R_alloc | apply Kd.R_drewN | apply Kd.R_drew)); exact Kd.R_mono HO374.out (fun _ hk => hk.2))); (case aS => exact (below_size (be_ HB.out))); (case aL => have := LMc30.out; omega); intro v376 w39 ho hb hg hat; rw [← Ny375.out] at ho; have n0_ := am_ (blk_grown (g := gb367) (o := .cells #[.slice A0_0 l0_0.length c0_0] 58 (0, 0)) (bk_ BK367.out) hg (Kd.R_ne HO374.out BK367.out (by decide))); have n1_ := am_ (blk_grown (g := gb368) (o := .cells #[.slice none 0 0] 58 (0, 0)) (bk_ BK368.out) hg (Kd.R_ne HO374.out BK368.out (by decide))); have n2_ := am_ (blk_grown (g := gb369) (o := .cells #[.int .i64 a1, .int .i64 a2, .int .i64 a3, .bool false] 83 (0, 0)) (bk_ BK369.out) hg (Kd.R_away HO374.out (fun _ hk => hk.2))); have n3_ := am_ (hb); have n4_ := am_ (ho); clear BK367; clear BK368; clear BK369; clear HB; clear HO374; have BK367 := n0_; have BK368 := n1_; have BK369 := n2_; have HB := n3_; have HO377 := n4_; clear n0_ n1_ n2_ n3_ n4_; clear ho hb hg hat; have hnb40 := NB369_368.out; have hnc40 := NB368_369.out; have hcz41_0 : w39.cell? ⟨gb369, 0, none⟩ = some (.int .i64 a1) := (blk_cell BK369.out 0).trans rfl; have hcz41_1 : w39.cell? ⟨gb369, 1, none⟩ = some (.int .i64 a2) := (blk_cell BK369.out 1).trans rfl; have hcz41_2 : w39.cell? ⟨gb369, 2, none⟩ = some (.int .i64 a3) := (blk_cell BK369.out 2).trans rfl; have hcz41_3 : w39.cell? ⟨gb369, 3, none⟩ = some (.bool false) := (blk_cell BK369.out 3).trans rfl; have hfz41_0 := blk_frozen BK369.out 0; have hfz41_1 := blk_frozen BK369.out 1; have hfz41_2 := blk_frozen BK369.out 2; have hfz41_3 := blk_frozen BK369.out 3) | ((with_reducible refine gate_builtin (b := .append) (xs := #[.tmp 29, .tmp 31]) rfl ?_); at_builtin; refine Kd.R_append k83 (w0 := w) w.heap.size rfl (.tmp 29) (.tmp 31) 37 83 (.agg #[(.int .i64 0), (.int .i64 0), (.int .i64 0), (.bool false)]) 32 rfl Try.underlying37 info83 rfl (by decide) (by omega) v376 y375 (⟨a1, a2, a3, false⟩ : S83) [.int .i64 a1, .int .i64 a2, .int .i64 a3, .bool false] (fun k_ => k_ ≠ gb369) (fun _ => False) rfl rfl ?aP (fun _ hk => hk.elim) ?aF ?aO ?aB ?aS ?aL ?_; (case aP => exact k83_mkM _ _ _ (⟨a1, a2, a3, false⟩ : S83)); (case aB => exact (be_ HB.out)); (case aF => exact (fun k_ hk => Kd.freshB (g := gb369) (o := .cells #[.int .i64 a1, .int .i64 a2, .int .i64 a3, .bool false] 83 (0, 0)) (bk_ BK369.out) k_ hk)); (case aO => exact (ro_ HO377.out)); (case aS => exact (below_size (be_ HB.out))); (case aL => have := LMc31.out; omega); intro v379 w42 ho hb hg hat; rw [← Ny378.out] at ho; have n0_ := am_ (blk_grown (g := gb367) (o := .cells #[.slice A0_0 l0_0.length c0_0] 58 (0, 0)) (bk_ BK367.out) hg (Kd.R_ne HO377.out BK367.out (by decide))); have n1_ := am_ (blk_grown (g := gb368) (o := .cells #[.slice none 0 0] 58 (0, 0)) (bk_ BK368.out) hg (Kd.R_ne HO377.out BK368.out (by decide))); have n2_ := am_ (blk_grown (g := gb369) (o := .cells #[.int .i64 a1, .int .i64 a2, .int .i64 a3, .bool false] 83 (0, 0)) (bk_ BK369.out) hg (Kd.R_away HO377.out (fun _ hk => hk))); have n3_ := am_ (hb); have n4_ := am_ (ho); clear BK367; clear BK368; clear BK369; clear HB; clear HO377; have BK367 := n0_; have BK368 := n1_; have BK369 := n2_; have HB := n3_; have HO380 := n4_; clear n0_ n1_ n2_ n3_ n4_; clear ho hb hg hat; obtain ⟨Ao43, co43, eo43⟩ := Kd.R_slice HO380.out; subst eo43) | ((with_reducible refine gate_callee (f := 23) rfl ?_); refine goesL_ (some 35) rfl rfl Try.func23 (by kernel_rfl) rfl #[.agg #[.slice Ao43 y378.length co43]] rfl ma_ ?_; (with_reducible refine (heronryref15_Sane.calls kj4 _ _ y378 true _ ?side1 ?side2 A32.out).mono ?_); (case side1 => repeat (first | exact (Kd.R_reads' HO380.out).2.2 | (with_reducible refine Kd.C_alloc ?_ _) | (with_reducible refine Kd.C_drewN ?_ _) | (with_reducible refine Kd.C_drew ?_))); (case side2 => exact (Kd.R_reads' HO380.out).2.1); rintro e w44 ⟨rfl, hb⟩; refine ⟨_, rfl, ?_⟩; have n0_ := am_ (Kd.R_below (ro_ HO380.out) hb); have n1_ := am_ (bb_ BK367.out hb); have n2_ := am_ (bb_ BK368.out hb); have n3_ := am_ (bb_ BK369.out hb); have n4_ := am_ (below_step (be_ HB.out) hb); clear HO380; clear BK367; clear BK368; clear BK369; clear HB; have HO380 := n0_; have BK367 := n1_; have BK368 := n2_; have BK369 := n3_; have HB := n4_; clear n0_ n1_ n2_ n3_ n4_; (try clear hb); (try clear hb2); (try clear hk); (try clear hi); have hcz45_0 : w44.cell? ⟨gb368, 0, none⟩ = some (.slice none 0 0) := (blk_cell BK368.out 0).trans rfl; have hfz45_0 := blk_frozen BK368.out 0))
       refine bodyPost_ret (results_ct rfl _ _ gb368 58 #[.slice Ao43 y378.length co43] (0, 0) _ rfl (by (with_reducible repeat (first | refine blk_drewN ?_ _ | refine blk_drew ?_ | refine blk_alloc ?_ _)); refine blk_put (cs := #[.slice none 0 0]) ?_ 0 _ rfl; (with_reducible repeat (first | refine blk_drewN ?_ _ | refine blk_drew ?_ | refine blk_alloc ?_ _)); exact BK368.out) Try.underlying58 rfl (by kernel_rfl)) rfl ?_
       exact ⟨_, by first | rfl | (simp [errW_none, errW_some] <;> rfl) | (simp [*, errW_none, errW_some] <;> rfl), by (with_reducible repeat (first | apply Kd.R_alloc | apply Kd.R_drewN | apply Kd.R_drew)); exact Kd.R_mono (Kd.R_far (p := ⟨gb368, 0, none⟩) (Kd.R_types HO380.out BK368.out (by decide)) (fun _ hk => hk.2) (.slice Ao43 y378.length co43)) (fun _ hk => trivial), be_ HB.out⟩
      ·replace c33 := Bool.eq_false_iff.mpr c33
       subst c33
       have H1 : (some (([] : List (S83)), 13)) = some (r1, r2) := by rw [if_neg (show ¬ (false = true) by decide)] at H; exact H
       clear H
       have H := H1
       clear H1
       simp only [Option.some.injEq, Prod.mk.injEq] at H
       obtain ⟨rfl, rfl⟩ := H
       go_wp2_with (first | ((with_reducible refine gate_dst (N := 25) rfl ?_); refine Kd.R_lit k83 _ 83 ?hg (N := 25) ?hd (xs := ([] : List (S83))) (inner := []) (ok := fun _ => True) (okp := fun _ => True) ?hr ?hp (fun _ hk => hk) trivial (Below.refl _ _) (Nat.le_refl _) (by simp) ?_; (case hd => rfl); (case hg => rfl); (case hr => first | (go_simp; done) | (go_simp; rfl)); (case hp => exact (Reps.none _ _)); intro v373 w46 ho47 hb hg_ hnew_; clear hg_ hnew_; (first | rw [← Ny372.out] at ho47 | (simp only [Int.reduceToNat] at ho47; rw [← Ny372.out] at ho47)); have n0_ := am_ (Kd.R_lower (Kd.R_newB ho47 (g := gb369) (o := .cells #[.int .i64 a1, .int .i64 a2, .int .i64 a3, .bool false] 83 (0, 0)) (bk_ BK369.out)) (below_size (be_ HB.out))); have n1_ := am_ (bb_ BK367.out hb); have n2_ := am_ (bb_ BK368.out hb); have n3_ := am_ (bb_ BK369.out hb); have n4_ := am_ (below_step (be_ HB.out) hb); clear BK367; clear BK368; clear BK369; clear HB; have HO374 := n0_; have BK367 := n1_; have BK368 := n2_; have BK369 := n3_; have HB := n4_; clear n0_ n1_ n2_ n3_ n4_; clear hb ho47; have hnb48 := NB367_368.out; have hnc48 := NB368_367.out; have hnb49 := NB367_369.out; have hnc49 := NB369_367.out; have hcz50_0 : w46.cell? ⟨gb367, 0, none⟩ = some (.slice A0_0 l0_0.length c0_0) := (blk_cell BK367.out 0).trans rfl; have hfz50_0 := blk_frozen BK367.out 0) | ((with_reducible refine gate_builtin (b := .append) (xs := #[.tmp 25, .tmp 27]) rfl ?_); at_builtin; refine Kd.R_append_rows k83 (w0 := w) w.heap.size rfl (.tmp 25) (.tmp 27) 37 83 (.agg #[(.int .i64 0), (.int .i64 0), (.int .i64 0), (.bool false)]) 32 rfl Try.underlying37 info83 rfl (by decide) (by omega) v373 y372 l0_0 _ _ _ (fun k_ => k_ ≠ gb369) (fun _ => False) rfl rfl ?aO ?aR (fun _ _ h => h) (fun _ h => h.elim) ?aF ?aB ?aS ?aL ?_; (case aR => repeat (first | exact (Kd.C_below HR0_0.out HB.out) | (with_reducible refine Kd.C_alloc ?_ _) | (with_reducible refine Kd.C_drewN ?_ _) | (with_reducible refine Kd.C_drew ?_))); (case aB => exact (be_ HB.out)); (case aF => exact (fun k_ hk => Kd.freshB (g := gb369) (o := .cells #[.int .i64 a1, .int .i64 a2, .int .i64 a3, .bool false] 83 (0, 0)) (bk_ BK369.out) k_ hk)); (case aO => exact (by (with_reducible repeat (first | apply Kd.R_alloc | apply Kd.R_drewN | apply Kd.R_drew)); exact Kd.R_mono HO374.out (fun _ hk => hk.2))); (case aS => exact (below_size (be_ HB.out))); (case aL => have := LMc30.out; omega); intro v376 w51 ho hb hg hat; rw [← Ny375.out] at ho; have n0_ := am_ (blk_grown (g := gb367) (o := .cells #[.slice A0_0 l0_0.length c0_0] 58 (0, 0)) (bk_ BK367.out) hg (Kd.R_ne HO374.out BK367.out (by decide))); have n1_ := am_ (blk_grown (g := gb368) (o := .cells #[.slice none 0 0] 58 (0, 0)) (bk_ BK368.out) hg (Kd.R_ne HO374.out BK368.out (by decide))); have n2_ := am_ (blk_grown (g := gb369) (o := .cells #[.int .i64 a1, .int .i64 a2, .int .i64 a3, .bool false] 83 (0, 0)) (bk_ BK369.out) hg (Kd.R_away HO374.out (fun _ hk => hk.2))); have n3_ := am_ (hb); have n4_ := am_ (ho); clear BK367; clear BK368; clear BK369; clear HB; clear HO374; have BK367 := n0_; have BK368 := n1_; have BK369 := n2_; have HB := n3_; have HO377 := n4_; clear n0_ n1_ n2_ n3_ n4_; clear ho hb hg hat; have hnb52 := NB369_368.out; have hnc52 := NB368_369.out; have hcz53_0 : w51.cell? ⟨gb369, 0, none⟩ = some (.int .i64 a1) := (blk_cell BK369.out 0).trans rfl; have hcz53_1 : w51.cell? ⟨gb369, 1, none⟩ = some (.int .i64 a2) := (blk_cell BK369.out 1).trans rfl; have hcz53_2 : w51.cell? ⟨gb369, 2, none⟩ = some (.int .i64 a3) := (blk_cell BK369.out 2).trans rfl; have hcz53_3 : w51.cell? ⟨gb369, 3, none⟩ = some (.bool false) := (blk_cell BK369.out 3).trans rfl; have hfz53_0 := blk_frozen BK369.out 0; have hfz53_1 := blk_frozen BK369.out 1; have hfz53_2 := blk_frozen BK369.out 2; have hfz53_3 := blk_frozen BK369.out 3) | ((with_reducible refine gate_builtin (b := .append) (xs := #[.tmp 29, .tmp 31]) rfl ?_); at_builtin; refine Kd.R_append k83 (w0 := w) w.heap.size rfl (.tmp 29) (.tmp 31) 37 83 (.agg #[(.int .i64 0), (.int .i64 0), (.int .i64 0), (.bool false)]) 32 rfl Try.underlying37 info83 rfl (by decide) (by omega) v376 y375 (⟨a1, a2, a3, false⟩ : S83) [.int .i64 a1, .int .i64 a2, .int .i64 a3, .bool false] (fun k_ => k_ ≠ gb369) (fun _ => False) rfl rfl ?aP (fun _ hk => hk.elim) ?aF ?aO ?aB ?aS ?aL ?_; (case aP => exact k83_mkM _ _ _ (⟨a1, a2, a3, false⟩ : S83)); (case aB => exact (be_ HB.out)); (case aF => exact (fun k_ hk => Kd.freshB (g := gb369) (o := .cells #[.int .i64 a1, .int .i64 a2, .int .i64 a3, .bool false] 83 (0, 0)) (bk_ BK369.out) k_ hk)); (case aO => exact (ro_ HO377.out)); (case aS => exact (below_size (be_ HB.out))); (case aL => have := LMc31.out; omega); intro v379 w54 ho hb hg hat; rw [← Ny378.out] at ho; have n0_ := am_ (blk_grown (g := gb367) (o := .cells #[.slice A0_0 l0_0.length c0_0] 58 (0, 0)) (bk_ BK367.out) hg (Kd.R_ne HO377.out BK367.out (by decide))); have n1_ := am_ (blk_grown (g := gb368) (o := .cells #[.slice none 0 0] 58 (0, 0)) (bk_ BK368.out) hg (Kd.R_ne HO377.out BK368.out (by decide))); have n2_ := am_ (blk_grown (g := gb369) (o := .cells #[.int .i64 a1, .int .i64 a2, .int .i64 a3, .bool false] 83 (0, 0)) (bk_ BK369.out) hg (Kd.R_away HO377.out (fun _ hk => hk))); have n3_ := am_ (hb); have n4_ := am_ (ho); clear BK367; clear BK368; clear BK369; clear HB; clear HO377; have BK367 := n0_; have BK368 := n1_; have BK369 := n2_; have HB := n3_; have HO380 := n4_; clear n0_ n1_ n2_ n3_ n4_; clear ho hb hg hat; obtain ⟨Ao55, co55, eo55⟩ := Kd.R_slice HO380.out; subst eo55) | ((with_reducible refine gate_callee (f := 23) rfl ?_); refine goesL_ (some 35) rfl rfl Try.func23 (by kernel_rfl) rfl #[.agg #[.slice Ao55 y378.length co55]] rfl ma_ ?_; (with_reducible refine (heronryref15_Sane.calls kj4 _ _ y378 false _ ?side1 ?side2 A32.out).mono ?_); (case side1 => repeat (first | exact (Kd.R_reads' HO380.out).2.2 | (with_reducible refine Kd.C_alloc ?_ _) | (with_reducible refine Kd.C_drewN ?_ _) | (with_reducible refine Kd.C_drew ?_))); (case side2 => exact (Kd.R_reads' HO380.out).2.1); rintro e w56 ⟨rfl, hb⟩; refine ⟨_, rfl, ?_⟩; have n0_ := am_ (Kd.R_below (ro_ HO380.out) hb); have n1_ := am_ (bb_ BK367.out hb); have n2_ := am_ (bb_ BK368.out hb); have n3_ := am_ (bb_ BK369.out hb); have n4_ := am_ (below_step (be_ HB.out) hb); clear HO380; clear BK367; clear BK368; clear BK369; clear HB; have HO380 := n0_; have BK367 := n1_; have BK368 := n2_; have BK369 := n3_; have HB := n4_; clear n0_ n1_ n2_ n3_ n4_; (try clear hb); (try clear hb2); (try clear hk); (try clear hi); have hcz57_0 : w56.cell? ⟨gb368, 0, none⟩ = some (.slice none 0 0) := (blk_cell BK368.out 0).trans rfl; have hfz57_0 := blk_frozen BK368.out 0))
       refine bodyPost_ret (results_ct rfl _ _ gb368 58 #[.slice none 0 0] (0, 0) _ rfl (by (with_reducible repeat (first | refine blk_drewN ?_ _ | refine blk_drew ?_ | refine blk_alloc ?_ _)); refine blk_put (cs := #[.slice none 0 0]) ?_ 0 _ rfl; (with_reducible repeat (first | refine blk_drewN ?_ _ | refine blk_drew ?_ | refine blk_alloc ?_ _)); exact BK368.out) Try.underlying58 rfl (by kernel_rfl)) rfl ?_
       exact ⟨_, by first | rfl | (simp [errW_none, errW_some] <;> rfl) | (simp [*, errW_none, errW_some] <;> rfl), by first | exact Kd.R_nil _ _ _ _ _ | exact Kd.N_nil _ _ _ _ _ | exact Kd.V_nil _ _ _ _ _ | exact Kd.Q_nil _ _ _ _ _ | exact Kd.S_nil _ _ _ _ _, be_ HB.out⟩
     ·rw [if_neg c31] at H
      exact absurd H (by simp)
    ·rw [if_neg c30] at H
     exact absurd H (by simp)

def heronryref12_plus.f (a0_0 : Int) (a0_1 : Int) (a1_0 : Int) (a1_1 : Int) : Option (Int × Int) := some (wrap64 ((wrap64 (a0_0 + a1_0)) + ((wrap64 (a0_1 + a1_1)) / 4294967296)), Go.bits .and .i64 (wrap64 (a0_1 + a1_1)) 4294967295)
set_option maxHeartbeats 8000000 in
set_option maxRecDepth 100000 in
theorem heronryref12_plus.calls (a0_0 : Int) (a0_1 : Int) (a1_0 : Int) (a1_1 : Int) (r1 : Int) (r2 : Int) (w : World) (h : heronryref12_plus.f a0_0 a0_1 a1_0 a1_1 = some (r1, r2)) :
  Calls Try.prog 61 #[.agg #[.int .i64 a0_0, .int .i64 a0_1], .agg #[.int .i64 a1_0, .int .i64 a1_1]] w fun e w' => e = .returned (.agg #[.int .i64 r1, .int .i64 r2]) ∧ Below w.heap.size w w' := by
 have hu119 := Try.underlying119
 have HB := am_ (Below.refl w.heap.size w)
 have H : (some (wrap64 ((wrap64 (a0_0 + a1_0)) + ((wrap64 (a0_1 + a1_1)) / 4294967296)), Go.bits .and .i64 (wrap64 (a0_1 + a1_1)) 4294967295)) = some (r1, r2) := h
 clear h
 simp only [Option.some.injEq, Prod.mk.injEq] at H
 obtain ⟨rfl, rfl⟩ := H
 go_enter Try.func61, Try.ntmps61
 go_wp2_with (first | ((with_reducible refine gate_dst (N := 2) rfl ?_); refine box_event ?hg (N := 2) ?hd (cs := #[.int .i64 a0_0, .int .i64 a0_1]) (t := 119) ?hr ?_; (case hd => rfl); (case hg => rfl); (case hr => first | (go_simp; done) | (go_simp; rfl)); intro gb382 hg w3 hbox hb; have n0_ := am_ (below_step (be_ HB.out) hb); have n1_ := am_ (hbox); have n2_ := am_ ((by rw [hg]; exact (below_size (be_ HB.out)) : w.heap.size ≤ gb382)); have n3_ := am_ ((by rw [hg]; exact (below_size (be_ HB.out)) : w.heap.size ≤ gb382)); clear HB; have HB := n0_; have BK382 := n1_; have GW382 := n2_; have GE382 := n3_; clear n0_ n1_ n2_ n3_; clear hb hbox hg) | ((with_reducible refine gate_dst (N := 3) rfl ?_); refine box_event ?hg (N := 3) ?hd (cs := #[.int .i64 a1_0, .int .i64 a1_1]) (t := 119) ?hr ?_; (case hd => rfl); (case hg => rfl); (case hr => first | (go_simp; done) | (go_simp; rfl)); intro gb383 hg w4 hbox hb; have n0_ := am_ (bb_ BK382.out hb); have n1_ := am_ (below_step (be_ HB.out) hb); have n2_ := am_ (hbox); have n3_ := am_ ((by rw [hg]; exact (below_size (be_ HB.out)) : w.heap.size ≤ gb383)); have n4_ := am_ ((by rw [hg]; exact (below_size (be_ HB.out)) : w.heap.size ≤ gb383)); have n5_ := am_ ((by rw [hg]; exact Nat.ne_of_lt (bl_ BK382.out) : gb382 ≠ gb383)); have n6_ := am_ ((by rw [hg]; exact Nat.ne_of_gt (bl_ BK382.out) : gb383 ≠ gb382)); clear BK382; clear HB; have BK382 := n0_; have HB := n1_; have BK383 := n2_; have GW383 := n3_; have GE383 := n4_; have NB382_383 := n5_; have NB383_382 := n6_; clear n0_ n1_ n2_ n3_ n4_ n5_ n6_; clear hb hbox hg) | ((with_reducible refine gate_dst (N := 4) rfl ?_); refine box_event ?hg (N := 4) ?hd (cs := #[.int .i64 0, .int .i64 0]) (t := 119) ?hr ?_; (case hd => rfl); (case hg => rfl); (case hr => first | (go_simp; done) | (go_simp; rfl)); intro gb384 hg w5 hbox hb; have n0_ := am_ (bb_ BK382.out hb); have n1_ := am_ (bb_ BK383.out hb); have n2_ := am_ (below_step (be_ HB.out) hb); have n3_ := am_ (hbox); have n4_ := am_ ((by rw [hg]; exact (below_size (be_ HB.out)) : w.heap.size ≤ gb384)); have n5_ := am_ ((by rw [hg]; exact (below_size (be_ HB.out)) : w.heap.size ≤ gb384)); have n6_ := am_ ((by rw [hg]; exact Nat.ne_of_lt (bl_ BK382.out) : gb382 ≠ gb384)); have n7_ := am_ ((by rw [hg]; exact Nat.ne_of_gt (bl_ BK382.out) : gb384 ≠ gb382)); have n8_ := am_ ((by rw [hg]; exact Nat.ne_of_lt (bl_ BK383.out) : gb383 ≠ gb384)); have n9_ := am_ ((by rw [hg]; exact Nat.ne_of_gt (bl_ BK383.out) : gb384 ≠ gb383)); clear BK382; clear BK383; clear HB; have BK382 := n0_; have BK383 := n1_; have HB := n2_; have BK384 := n3_; have GW384 := n4_; have GE384 := n5_; have NB382_384 := n6_; have NB384_382 := n7_; have NB383_384 := n8_; have NB384_383 := n9_; clear n0_ n1_ n2_ n3_ n4_ n5_ n6_ n7_ n8_ n9_; clear hb hbox hg; have hnb6 := NB382_383.out; have hnc6 := NB383_382.out; have hnb7 := NB382_384.out; have hnc7 := NB384_382.out; have hcz8_0 : w5.cell? ⟨gb382, 0, none⟩ = some (.int .i64 a0_0) := (blk_cell BK382.out 0).trans rfl; have hcz8_1 : w5.cell? ⟨gb382, 1, none⟩ = some (.int .i64 a0_1) := (blk_cell BK382.out 1).trans rfl; have hfz8_0 := blk_frozen BK382.out 0; have hfz8_1 := blk_frozen BK382.out 1; have hnb9 := NB383_384.out; have hnc9 := NB384_383.out; have hcz10_0 : w5.cell? ⟨gb383, 0, none⟩ = some (.int .i64 a1_0) := (blk_cell BK383.out 0).trans rfl; have hcz10_1 : w5.cell? ⟨gb383, 1, none⟩ = some (.int .i64 a1_1) := (blk_cell BK383.out 1).trans rfl; have hfz10_0 := blk_frozen BK383.out 0; have hfz10_1 := blk_frozen BK383.out 1; have hcz11_0 : w5.cell? ⟨gb384, 0, none⟩ = some (.int .i64 0) := (blk_cell BK384.out 0).trans rfl; have hcz11_1 : w5.cell? ⟨gb384, 1, none⟩ = some (.int .i64 0) := (blk_cell BK384.out 1).trans rfl; have hfz11_0 := blk_frozen BK384.out 0; have hfz11_1 := blk_frozen BK384.out 1))
 refine bodyPost_ret (results_cell_row rfl _ _ gb384 119 #[.int .i64 (wrap64 ((wrap64 (a0_0 + a1_0)) + ((wrap64 (a0_1 + a1_1)) / 4294967296))), .int .i64 (Go.bits .and .i64 (wrap64 (a0_1 + a1_1)) 4294967295)] (0, 0) _ rfl (by (with_reducible repeat (first | refine blk_drewN ?_ _ | refine blk_drew ?_ | refine blk_alloc ?_ _)); refine blk_put (cs := #[.int .i64 (wrap64 ((wrap64 (a0_0 + a1_0)) + ((wrap64 (a0_1 + a1_1)) / 4294967296))), .int .i64 0]) ?_ 1 _ rfl; (with_reducible repeat (first | refine blk_drewN ?_ _ | refine blk_drew ?_ | refine blk_alloc ?_ _)); refine blk_put (cs := #[.int .i64 0, .int .i64 0]) ?_ 0 _ rfl; (with_reducible repeat (first | refine blk_drewN ?_ _ | refine blk_drew ?_ | refine blk_alloc ?_ _)); exact BK384.out) Try.underlying119 rfl (by kernel_rfl)) rfl ?_
 exact ⟨by first | rfl | (simp [errW_none, errW_some] <;> rfl) | (simp [*, errW_none, errW_some] <;> rfl), be_ HB.out⟩

def heronryref12_of.f (a0 : Int) : Option (Int × Int) := some (a0 / 4294967296, Go.bits .and .i64 a0 4294967295)
set_option maxHeartbeats 8000000 in
set_option maxRecDepth 100000 in
theorem heronryref12_of.calls (a0 : Int) (r1 : Int) (r2 : Int) (w : World) (h : heronryref12_of.f a0 = some (r1, r2)) :
  Calls Try.prog 62 #[.int .i64 a0] w fun e w' => e = .returned (.agg #[.int .i64 r1, .int .i64 r2]) ∧ Below w.heap.size w w' := by
 have hu119 := Try.underlying119
 have HB := am_ (Below.refl w.heap.size w)
 have H : (some (a0 / 4294967296, Go.bits .and .i64 a0 4294967295)) = some (r1, r2) := h
 clear h
 simp only [Option.some.injEq, Prod.mk.injEq] at H
 obtain ⟨rfl, rfl⟩ := H
 go_enter Try.func62, Try.ntmps62
 go_wp2_with (first | ((with_reducible refine gate_dst (N := 2) rfl ?_); refine box_event ?hg (N := 2) ?hd (cs := #[.int .i64 0, .int .i64 0]) (t := 119) ?hr ?_; (case hd => rfl); (case hg => rfl); (case hr => first | (go_simp; done) | (go_simp; rfl)); intro gb385 hg w2 hbox hb; have n0_ := am_ (below_step (be_ HB.out) hb); have n1_ := am_ (hbox); have n2_ := am_ ((by rw [hg]; exact (below_size (be_ HB.out)) : w.heap.size ≤ gb385)); have n3_ := am_ ((by rw [hg]; exact (below_size (be_ HB.out)) : w.heap.size ≤ gb385)); clear HB; have HB := n0_; have BK385 := n1_; have GW385 := n2_; have GE385 := n3_; clear n0_ n1_ n2_ n3_; clear hb hbox hg; have hcz3_0 : w2.cell? ⟨gb385, 0, none⟩ = some (.int .i64 0) := (blk_cell BK385.out 0).trans rfl; have hcz3_1 : w2.cell? ⟨gb385, 1, none⟩ = some (.int .i64 0) := (blk_cell BK385.out 1).trans rfl; have hfz3_0 := blk_frozen BK385.out 0; have hfz3_1 := blk_frozen BK385.out 1))
 refine bodyPost_ret (results_cell_row rfl _ _ gb385 119 #[.int .i64 (a0 / 4294967296), .int .i64 (Go.bits .and .i64 a0 4294967295)] (0, 0) _ rfl (by (with_reducible repeat (first | refine blk_drewN ?_ _ | refine blk_drew ?_ | refine blk_alloc ?_ _)); refine blk_put (cs := #[.int .i64 (a0 / 4294967296), .int .i64 0]) ?_ 1 _ rfl; (with_reducible repeat (first | refine blk_drewN ?_ _ | refine blk_drew ?_ | refine blk_alloc ?_ _)); refine blk_put (cs := #[.int .i64 0, .int .i64 0]) ?_ 0 _ rfl; (with_reducible repeat (first | refine blk_drewN ?_ _ | refine blk_drew ?_ | refine blk_alloc ?_ _)); exact BK385.out) Try.underlying119 rfl (by kernel_rfl)) rfl ?_
 exact ⟨by first | rfl | (simp [errW_none, errW_some] <;> rfl) | (simp [*, errW_none, errW_some] <;> rfl), be_ HB.out⟩

def heronryref12_told.f (a0_0 : Int) (a0_1 : Int) : Option (Int × Int) := if a0_0 < (-2147483648) then (some (0, 12)) else (if a0_0 > 2147483647 then (some (0, 12)) else (some (wrap64 ((wrap64 (a0_0 * 4294967296)) + a0_1), 0)))
set_option maxHeartbeats 8000000 in
set_option maxRecDepth 100000 in
theorem heronryref12_told.calls (a0_0 : Int) (a0_1 : Int) (r1 : Int) (r2 : Int) (w : World) (h : heronryref12_told.f a0_0 a0_1 = some (r1, r2)) :
  Calls Try.prog 63 #[.agg #[.int .i64 a0_0, .int .i64 a0_1]] w fun e w' => e = .returned (.tuple #[.int .i64 r1, .int .i64 r2]) ∧ Below w.heap.size w w' := by
 have hu119 := Try.underlying119
 have HB := am_ (Below.refl w.heap.size w)
 have H : (if a0_0 < (-2147483648) then (some (0, 12)) else (if a0_0 > 2147483647 then (some (0, 12)) else (some (wrap64 ((wrap64 (a0_0 * 4294967296)) + a0_1), 0)))) = some (r1, r2) := h
 clear h
 by_cases c2 : a0_0 < (-2147483648)
 ·rw [if_pos c2] at H
  have c2b0 : decide (a0_0 < (-2147483648)) = true := decide_eq_true c2
  clear c2
  simp only [Option.some.injEq, Prod.mk.injEq] at H
  obtain ⟨rfl, rfl⟩ := H
  go_enter Try.func63, Try.ntmps63
  go_wp2_with (first | ((with_reducible refine gate_dst (N := 1) rfl ?_); refine box_event ?hg (N := 1) ?hd (cs := #[.int .i64 a0_0, .int .i64 a0_1]) (t := 119) ?hr ?_; (case hd => rfl); (case hg => rfl); (case hr => first | (go_simp; done) | (go_simp; rfl)); intro gb386 hg w3 hbox hb; have n0_ := am_ (below_step (be_ HB.out) hb); have n1_ := am_ (hbox); have n2_ := am_ ((by rw [hg]; exact (below_size (be_ HB.out)) : w.heap.size ≤ gb386)); have n3_ := am_ ((by rw [hg]; exact (below_size (be_ HB.out)) : w.heap.size ≤ gb386)); clear HB; have HB := n0_; have BK386 := n1_; have GW386 := n2_; have GE386 := n3_; clear n0_ n1_ n2_ n3_; clear hb hbox hg; have hcz4_0 : w3.cell? ⟨gb386, 0, none⟩ = some (.int .i64 a0_0) := (blk_cell BK386.out 0).trans rfl; have hcz4_1 : w3.cell? ⟨gb386, 1, none⟩ = some (.int .i64 a0_1) := (blk_cell BK386.out 1).trans rfl; have hfz4_0 := blk_frozen BK386.out 0; have hfz4_1 := blk_frozen BK386.out 1))
  go_ret2
  exact ⟨by first | rfl | (simp [errW_none, errW_some] <;> rfl) | (simp [*, errW_none, errW_some] <;> rfl), be_ HB.out⟩
 ·rw [if_neg c2] at H
  have c2b0 : decide (a0_0 < (-2147483648)) = false := decide_eq_false c2
  clear c2
  by_cases c5 : a0_0 > 2147483647
  ·rw [if_pos c5] at H
   have c5b0 : decide (2147483647 < a0_0) = true := decide_eq_true c5
   clear c5
   simp only [Option.some.injEq, Prod.mk.injEq] at H
   obtain ⟨rfl, rfl⟩ := H
   go_enter Try.func63, Try.ntmps63
   go_wp2_with (first | ((with_reducible refine gate_dst (N := 1) rfl ?_); refine box_event ?hg (N := 1) ?hd (cs := #[.int .i64 a0_0, .int .i64 a0_1]) (t := 119) ?hr ?_; (case hd => rfl); (case hg => rfl); (case hr => first | (go_simp; done) | (go_simp; rfl)); intro gb386 hg w6 hbox hb; have n0_ := am_ (below_step (be_ HB.out) hb); have n1_ := am_ (hbox); have n2_ := am_ ((by rw [hg]; exact (below_size (be_ HB.out)) : w.heap.size ≤ gb386)); have n3_ := am_ ((by rw [hg]; exact (below_size (be_ HB.out)) : w.heap.size ≤ gb386)); clear HB; have HB := n0_; have BK386 := n1_; have GW386 := n2_; have GE386 := n3_; clear n0_ n1_ n2_ n3_; clear hb hbox hg; have hcz7_0 : w6.cell? ⟨gb386, 0, none⟩ = some (.int .i64 a0_0) := (blk_cell BK386.out 0).trans rfl; have hcz7_1 : w6.cell? ⟨gb386, 1, none⟩ = some (.int .i64 a0_1) := (blk_cell BK386.out 1).trans rfl; have hfz7_0 := blk_frozen BK386.out 0; have hfz7_1 := blk_frozen BK386.out 1))
   go_ret2
   exact ⟨by first | rfl | (simp [errW_none, errW_some] <;> rfl) | (simp [*, errW_none, errW_some] <;> rfl), be_ HB.out⟩
  ·rw [if_neg c5] at H
   have c5b0 : decide (2147483647 < a0_0) = false := decide_eq_false c5
   clear c5
   simp only [Option.some.injEq, Prod.mk.injEq] at H
   obtain ⟨rfl, rfl⟩ := H
   go_enter Try.func63, Try.ntmps63
   go_wp2_with (first | ((with_reducible refine gate_dst (N := 1) rfl ?_); refine box_event ?hg (N := 1) ?hd (cs := #[.int .i64 a0_0, .int .i64 a0_1]) (t := 119) ?hr ?_; (case hd => rfl); (case hg => rfl); (case hr => first | (go_simp; done) | (go_simp; rfl)); intro gb386 hg w8 hbox hb; have n0_ := am_ (below_step (be_ HB.out) hb); have n1_ := am_ (hbox); have n2_ := am_ ((by rw [hg]; exact (below_size (be_ HB.out)) : w.heap.size ≤ gb386)); have n3_ := am_ ((by rw [hg]; exact (below_size (be_ HB.out)) : w.heap.size ≤ gb386)); clear HB; have HB := n0_; have BK386 := n1_; have GW386 := n2_; have GE386 := n3_; clear n0_ n1_ n2_ n3_; clear hb hbox hg; have hcz9_0 : w8.cell? ⟨gb386, 0, none⟩ = some (.int .i64 a0_0) := (blk_cell BK386.out 0).trans rfl; have hcz9_1 : w8.cell? ⟨gb386, 1, none⟩ = some (.int .i64 a0_1) := (blk_cell BK386.out 1).trans rfl; have hfz9_0 := blk_frozen BK386.out 0; have hfz9_1 := blk_frozen BK386.out 1))
   go_ret2
   exact ⟨by first | rfl | (simp [errW_none, errW_some] <;> rfl) | (simp [*, errW_none, errW_some] <;> rfl), be_ HB.out⟩

end Go.Proofs.Ytjpoepiidmoegaa.Q
