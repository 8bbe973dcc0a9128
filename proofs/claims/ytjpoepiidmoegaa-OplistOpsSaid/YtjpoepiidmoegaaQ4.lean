-- Cut to what one claim reaches, out of what the kit's print laid for this seat (wip/tools/trim.py).
import Derived.Test.YtjpoepiidmoegaaQ0
import Derived.Test.YtjpoepiidmoegaaQ3
import Derived.Test.YtjpoepiidmoegaaOL
import Derived.Test.YtjpoepiidmoegaaQA
namespace Go.Proofs.Ytjpoepiidmoegaa.Q
open Go.RowKit Go.Proofs.YtjpoepiidmoegaaW.PrintWords Go.Proofs.YtjpoepiidmoegaaW.PrintLast Go.Proofs.YtjpoepiidmoegaaW.PrintMore
attribute [local go_sem] max2_int min2_int max_two min_two max_three min_three max_four min_four   -- for this text's walks alone
set_option linter.unusedVariables false
set_option linter.unusedSimpArgs false

abbrev doA_a0 : Array Bool := #[false, false, false, false, false, false, false, false, false]
abbrev doA_a1 : Array Bool := #[true, false, false, false, false, false, false, false, false]
abbrev doA_a2 : Array Bool := #[true, true, false, false, false, false, false, false, false]
abbrev doA_a3 : Array Bool := #[true, true, false, true, false, false, false, false, false]
def oplist_Do.j0 : Nat → Bool → List (S33) → Int → Int → Int → Bool → Option ((List (S33)) × Int)
 | 0, _, _, _, _, _, _ => none
 | k + 1, x23, x109000, x111000, x111001, x111002, x111003 => if x23 = true then (some (([] : List (S33)), 1)) else ((oplist_Entry_31.f x109000).bind fun t113 => ((some (([(⟨x111000, x111001, x111002, x111003⟩ : S33)] : List (S33)) : List (S33))).bind fun y116 => (if t113.length + y116.length < 4398046511104 then ((some (t113 ++ y116 : List (S33))).bind fun y119 => ((oplist_Sane.f y119).bind fun t123 => (if t123 = true then (some (y119, 0)) else (some (([] : List (S33)), 13))))) else (none))))
def oplist_Do.f (k : Nat) (l0_0 : List (S33)) (a1 : Int) (a2 : Int) (a3 : Int) : Option ((List (S33)) × Int) := (oplist_Sane.f l0_0).bind fun t111 => (if t111 = true then ((oplist_Entry_sound.f a1 a2 a3 false).bind fun t112 => (oplist_Do.j0 k (!t112) l0_0 a1 a2 a3 false)) else (oplist_Do.j0 k true l0_0 a1 a2 a3 false))
def oplist_Do.T4 : Bool × List (List Nat × List Nat) := (true, [([], []), ([0], [0]), ([1], [1]), ([], []), ([3], [3]), ([2, 4, 2], [2, 4]), ([5], [5]), ([], []), ([7, 6, 5, 0, 1, 2, 3, 4, 5, 6, 7], [6, 7])])
def oplist_Do.B4 : List Nat := [0, 1, 3, 0, 8, 31, 63, 0, 255]
theorem oplist_Do.tab4 : rtab .any (opsOf Try.f10 4) = oplist_Do.T4 := by kernel_rfl
theorem oplist_Do.bits4 : waitsOk oplist_Do.T4.2 oplist_Do.B4 = true := by kernel_rfl
set_option maxHeartbeats 8000000 in
set_option maxRecDepth 100000 in
theorem oplist_Do.calls (k : Nat) (A0_0 : Option Addr) (c0_0 : Nat) (l0_0 : List (S33)) (a1 : Int) (a2 : Int) (a3 : Int) (r1 : List (S33)) (r2 : Int) (w : World) (hr0_0 : Kd.C k33 w A0_0 l0_0.length l0_0) (hc0_0 : l0_0.length ≤ c0_0) (h : oplist_Do.f k l0_0 a1 a2 a3 = some (r1, r2)) :
  Calls Try.prog 10 #[.agg #[.slice A0_0 l0_0.length c0_0], .int .i64 a1, .int .i64 a2, .int .i64 a3] w fun e w' => ∃ v0_ : Value, e = .returned (.tuple #[.agg #[v0_], .int .i64 r2]) ∧ Kd.R k33 33 w' w.heap.size (fun _ => True) v0_ r1 ∧ Below w.heap.size w w' := by
 have hu26 := Try.underlying26
 have hu33 := Try.underlying33
 have HR0_0 := am_ hr0_0
 have HC0_0 := am_ hc0_0
 clear hr0_0 hc0_0
 have HB := am_ (Below.refl w.heap.size w)
 have H : ((oplist_Sane.f l0_0).bind fun t111 => (if t111 = true then ((oplist_Entry_sound.f a1 a2 a3 false).bind fun t112 => (oplist_Do.j0 k (!t112) l0_0 a1 a2 a3 false)) else (oplist_Do.j0 k true l0_0 a1 a2 a3 false))) = some (r1, r2) := h
 clear h
 have HC5 := am_ H
 clear H
 go_enter Try.func10, Try.ntmps10
 go_upto_region 2 with (first | ((with_reducible refine gate_dst (N := 4) rfl ?_); refine box_event ?hg (N := 4) ?hd (cs := #[.slice A0_0 l0_0.length c0_0]) (t := 26) ?hr ?_; (case hd => rfl); (case hg => rfl); (case hr => first | (go_simp; done) | (go_simp; rfl)); intro gb108 hg w6 hbox hb; have n0_ := am_ (below_step (be_ HB.out) hb); have n1_ := am_ (hbox); have n2_ := am_ ((by rw [hg]; exact (below_size (be_ HB.out)) : w.heap.size ≤ gb108)); have n3_ := am_ ((by rw [hg]; exact (below_size (be_ HB.out)) : w.heap.size ≤ gb108)); clear HB; have HB := n0_; have BK108 := n1_; have GW108 := n2_; have GE108 := n3_; clear n0_ n1_ n2_ n3_; clear hb hbox hg) | ((with_reducible refine gate_dst (N := 8) rfl ?_); refine box_event ?hg (N := 8) ?hd (cs := #[.slice none 0 0]) (t := 26) ?hr ?_; (case hd => rfl); (case hg => rfl); (case hr => first | (go_simp; done) | (go_simp; rfl)); intro gb109 hg w7 hbox hb; have n0_ := am_ (bb_ BK108.out hb); have n1_ := am_ (below_step (be_ HB.out) hb); have n2_ := am_ (hbox); have n3_ := am_ ((by rw [hg]; exact (below_size (be_ HB.out)) : w.heap.size ≤ gb109)); have n4_ := am_ ((by rw [hg]; exact (below_size (be_ HB.out)) : w.heap.size ≤ gb109)); have n5_ := am_ ((by rw [hg]; exact Nat.ne_of_lt (bl_ BK108.out) : gb108 ≠ gb109)); have n6_ := am_ ((by rw [hg]; exact Nat.ne_of_gt (bl_ BK108.out) : gb109 ≠ gb108)); clear BK108; clear HB; have BK108 := n0_; have HB := n1_; have BK109 := n2_; have GW109 := n3_; have GE109 := n4_; have NB108_109 := n5_; have NB109_108 := n6_; clear n0_ n1_ n2_ n3_ n4_ n5_ n6_; clear hb hbox hg) | ((with_reducible refine gate_dst (N := 10) rfl ?_); refine box_event ?hg (N := 10) ?hd (cs := #[.int .i64 0, .int .i64 0, .int .i64 0, .bool false]) (t := 33) ?hr ?_; (case hd => rfl); (case hg => rfl); (case hr => first | (go_simp; done) | (go_simp; rfl)); intro gb110 hg w8 hbox hb; have n0_ := am_ (bb_ BK108.out hb); have n1_ := am_ (bb_ BK109.out hb); have n2_ := am_ (below_step (be_ HB.out) hb); have n3_ := am_ (hbox); have n4_ := am_ ((by rw [hg]; exact (below_size (be_ HB.out)) : w.heap.size ≤ gb110)); have n5_ := am_ ((by rw [hg]; exact (below_size (be_ HB.out)) : w.heap.size ≤ gb110)); have n6_ := am_ ((by rw [hg]; exact Nat.ne_of_lt (bl_ BK108.out) : gb108 ≠ gb110)); have n7_ := am_ ((by rw [hg]; exact Nat.ne_of_gt (bl_ BK108.out) : gb110 ≠ gb108)); have n8_ := am_ ((by rw [hg]; exact Nat.ne_of_lt (bl_ BK109.out) : gb109 ≠ gb110)); have n9_ := am_ ((by rw [hg]; exact Nat.ne_of_gt (bl_ BK109.out) : gb110 ≠ gb109)); clear BK108; clear BK109; clear HB; have BK108 := n0_; have BK109 := n1_; have HB := n2_; have BK110 := n3_; have GW110 := n4_; have GE110 := n5_; have NB108_110 := n6_; have NB110_108 := n7_; have NB109_110 := n8_; have NB110_109 := n9_; clear n0_ n1_ n2_ n3_ n4_ n5_ n6_ n7_ n8_ n9_; clear hb hbox hg; have hnb9 := NB110_108.out; have hnc9 := NB108_110.out; have hnb10 := NB110_109.out; have hnc10 := NB109_110.out; have hcz11_0 : w8.cell? ⟨gb110, 0, none⟩ = some (.int .i64 0) := (blk_cell BK110.out 0).trans rfl; have hcz11_1 : w8.cell? ⟨gb110, 1, none⟩ = some (.int .i64 0) := (blk_cell BK110.out 1).trans rfl; have hcz11_2 : w8.cell? ⟨gb110, 2, none⟩ = some (.int .i64 0) := (blk_cell BK110.out 2).trans rfl; have hcz11_3 : w8.cell? ⟨gb110, 3, none⟩ = some (.bool false) := (blk_cell BK110.out 3).trans rfl; have hfz11_0 := blk_frozen BK110.out 0; have hfz11_1 := blk_frozen BK110.out 1; have hfz11_2 := blk_frozen BK110.out 2; have hfz11_3 := blk_frozen BK110.out 3))
 (try simp only [Act.put, List.setIfInBounds_toArray, List.set_cons_zero, List.set_cons_succ])
 go_cut [23] (fun v23 wc => ∃ (kq : Nat) (x23_4 : Bool), v23 = .bool x23_4 ∧ Aside0 (oplist_Do.j0 kq x23_4 l0_0 a1 a2 a3 false = some (r1, r2)) ∧ Aside0 (kq ≤ k) ∧ Aside0 (wc.heap[gb108]? = some (.cells #[(.slice A0_0 l0_0.length c0_0)] 26 (0, 0))) ∧ Aside0 (wc.heap[gb109]? = some (.cells #[(.slice none 0 0)] 26 (0, 0))) ∧ Aside0 (wc.heap[gb110]? = some (.cells #[.int .i64 a1, .int .i64 a2, .int .i64 a3, .bool false] 33 (0, 0))) ∧ Aside0 (Below w.heap.size w wc))
 case first =>
  have H := HC5.out
  clear HC5
  replace H := Option.bind_eq_some_iff.mp H
  obtain ⟨t111, A120, H⟩ := H
  replace H : (if t111 = true then ((oplist_Entry_sound.f a1 a2 a3 false).bind fun t112 => (oplist_Do.j0 k (!t112) l0_0 a1 a2 a3 false)) else (oplist_Do.j0 k true l0_0 a1 a2 a3 false)) = some (r1, r2) := H
  have A12 := am_ A120
  clear A120
  by_cases c13 : t111 = true
  ·subst c13
   have H1 : ((oplist_Entry_sound.f a1 a2 a3 false).bind fun t112 => (oplist_Do.j0 k (!t112) l0_0 a1 a2 a3 false)) = some (r1, r2) := by rw [if_pos rfl] at H; exact H
   clear H
   have H := H1
   clear H1
   replace H := Option.bind_eq_some_iff.mp H
   obtain ⟨t112, A140, H⟩ := H
   replace H : (oplist_Do.j0 k (!t112) l0_0 a1 a2 a3 false) = some (r1, r2) := H
   have A14 := am_ A140
   clear A140
   have H' := am_ H
   clear H
   have hnb15 := NB108_109.out
   have hnc15 := NB109_108.out
   have hnb16 := NB108_110.out
   have hnc16 := NB110_108.out
   have hcz17_0 : w8.cell? ⟨gb108, 0, none⟩ = some (.slice A0_0 l0_0.length c0_0) := (blk_cell BK108.out 0).trans rfl
   have hfz17_0 := blk_frozen BK108.out 0
   go_wp2_with (first | ((with_reducible refine gate_callee (f := 15) rfl ?_); refine goesL_ (some 17) rfl rfl Try.func15 (by kernel_rfl) rfl #[.agg #[.slice A0_0 l0_0.length c0_0]] rfl ma_ ?_; (with_reducible refine (oplist_Sane.calls _ _ l0_0 true _ ?side1 ?side2 A12.out).mono ?_); (case side1 => exact Kd.C_below HR0_0.out (be_ HB.out)); (case side2 => exact HC0_0.out); rintro e w18 ⟨rfl, hb⟩; refine ⟨_, rfl, ?_⟩; have n0_ := am_ (blk_below (g := gb108) (o := .cells #[.slice A0_0 l0_0.length c0_0] 26 (0, 0)) (by (with_reducible repeat (first | refine blk_drewN ?_ _ | refine blk_drew ?_ | refine blk_alloc ?_ _)); refine blk_far ?_ NB108_110.out _; (with_reducible repeat (first | refine blk_drewN ?_ _ | refine blk_drew ?_ | refine blk_alloc ?_ _)); refine blk_far ?_ NB108_110.out _; (with_reducible repeat (first | refine blk_drewN ?_ _ | refine blk_drew ?_ | refine blk_alloc ?_ _)); refine blk_far ?_ NB108_110.out _; (with_reducible repeat (first | refine blk_drewN ?_ _ | refine blk_drew ?_ | refine blk_alloc ?_ _)); refine blk_far ?_ NB108_110.out _; (with_reducible repeat (first | refine blk_drewN ?_ _ | refine blk_drew ?_ | refine blk_alloc ?_ _)); exact BK108.out) hb); have n1_ := am_ (blk_below (g := gb109) (o := .cells #[.slice none 0 0] 26 (0, 0)) (by (with_reducible repeat (first | refine blk_drewN ?_ _ | refine blk_drew ?_ | refine blk_alloc ?_ _)); refine blk_far ?_ NB109_110.out _; (with_reducible repeat (first | refine blk_drewN ?_ _ | refine blk_drew ?_ | refine blk_alloc ?_ _)); refine blk_far ?_ NB109_110.out _; (with_reducible repeat (first | refine blk_drewN ?_ _ | refine blk_drew ?_ | refine blk_alloc ?_ _)); refine blk_far ?_ NB109_110.out _; (with_reducible repeat (first | refine blk_drewN ?_ _ | refine blk_drew ?_ | refine blk_alloc ?_ _)); refine blk_far ?_ NB109_110.out _; (with_reducible repeat (first | refine blk_drewN ?_ _ | refine blk_drew ?_ | refine blk_alloc ?_ _)); exact BK109.out) hb); have n2_ := am_ (blk_below (g := gb110) (o := .cells #[.int .i64 a1, .int .i64 a2, .int .i64 a3, .bool false] 33 (0, 0)) (by (with_reducible repeat (first | refine blk_drewN ?_ _ | refine blk_drew ?_ | refine blk_alloc ?_ _)); refine blk_put (cs := #[.int .i64 a1, .int .i64 a2, .int .i64 a3, .bool false]) ?_ 3 _ rfl; (with_reducible repeat (first | refine blk_drewN ?_ _ | refine blk_drew ?_ | refine blk_alloc ?_ _)); refine blk_put (cs := #[.int .i64 a1, .int .i64 a2, .int .i64 0, .bool false]) ?_ 2 _ rfl; (with_reducible repeat (first | refine blk_drewN ?_ _ | refine blk_drew ?_ | refine blk_alloc ?_ _)); refine blk_put (cs := #[.int .i64 a1, .int .i64 0, .int .i64 0, .bool false]) ?_ 1 _ rfl; (with_reducible repeat (first | refine blk_drewN ?_ _ | refine blk_drew ?_ | refine blk_alloc ?_ _)); refine blk_put (cs := #[.int .i64 0, .int .i64 0, .int .i64 0, .bool false]) ?_ 0 _ rfl; (with_reducible repeat (first | refine blk_drewN ?_ _ | refine blk_drew ?_ | refine blk_alloc ?_ _)); exact BK110.out) hb); have n3_ := am_ (below_step (be_ HB.out) hb); clear BK108; clear BK109; clear BK110; clear HB; have BK108 := n0_; have BK109 := n1_; have BK110 := n2_; have HB := n3_; clear n0_ n1_ n2_ n3_; (try clear hb); (try clear hb2); (try clear hk); (try clear hi); have hnb19 := NB110_109.out; have hnc19 := NB109_110.out; have hcz20_0 : w18.cell? ⟨gb110, 0, none⟩ = some (.int .i64 a1) := (blk_cell BK110.out 0).trans rfl; have hcz20_1 : w18.cell? ⟨gb110, 1, none⟩ = some (.int .i64 a2) := (blk_cell BK110.out 1).trans rfl; have hcz20_2 : w18.cell? ⟨gb110, 2, none⟩ = some (.int .i64 a3) := (blk_cell BK110.out 2).trans rfl; have hcz20_3 : w18.cell? ⟨gb110, 3, none⟩ = some (.bool false) := (blk_cell BK110.out 3).trans rfl; have hfz20_0 := blk_frozen BK110.out 0; have hfz20_1 := blk_frozen BK110.out 1; have hfz20_2 := blk_frozen BK110.out 2; have hfz20_3 := blk_frozen BK110.out 3) | (go_at_call 30; (with_reducible refine (oplist_Entry_sound.calls a1 a2 a3 false t112 _ A14.out).mono ?_); rintro e w21 ⟨rfl, hb⟩; have n0_ := am_ (bb_ BK108.out hb); have n1_ := am_ (bb_ BK109.out hb); have n2_ := am_ (bb_ BK110.out hb); have n3_ := am_ (below_step (be_ HB.out) hb); clear BK108; clear BK109; clear BK110; clear HB; have BK108 := n0_; have BK109 := n1_; have BK110 := n2_; have HB := n3_; clear n0_ n1_ n2_ n3_; (try clear hb); (try clear hb2); (try clear hk); (try clear hi)))
   go_meet
   case rel => exact ⟨_, (!t112), (by first | rfl | (simp; done) | (simp [*]; done)), H', ⟨by first | omega | exact Nat.le_refl _⟩, ⟨bk_ BK108.out⟩, ⟨bk_ BK109.out⟩, ⟨bk_ BK110.out⟩, ⟨be_ HB.out⟩⟩
  ·replace c13 := Bool.eq_false_iff.mpr c13
   subst c13
   have H1 : (oplist_Do.j0 k true l0_0 a1 a2 a3 false) = some (r1, r2) := by rw [if_neg (show ¬ (false = true) by decide)] at H; exact H
   clear H
   have H := H1
   clear H1
   have H' := am_ H
   clear H
   have hnb22 := NB108_109.out
   have hnc22 := NB109_108.out
   have hnb23 := NB108_110.out
   have hnc23 := NB110_108.out
   have hcz24_0 : w8.cell? ⟨gb108, 0, none⟩ = some (.slice A0_0 l0_0.length c0_0) := (blk_cell BK108.out 0).trans rfl
   have hfz24_0 := blk_frozen BK108.out 0
   go_wp2_with (first | ((with_reducible refine gate_callee (f := 15) rfl ?_); refine goesL_ (some 17) rfl rfl Try.func15 (by kernel_rfl) rfl #[.agg #[.slice A0_0 l0_0.length c0_0]] rfl ma_ ?_; (with_reducible refine (oplist_Sane.calls _ _ l0_0 false _ ?side1 ?side2 A12.out).mono ?_); (case side1 => exact Kd.C_below HR0_0.out (be_ HB.out)); (case side2 => exact HC0_0.out); rintro e w25 ⟨rfl, hb⟩; refine ⟨_, rfl, ?_⟩; have n0_ := am_ (blk_below (g := gb108) (o := .cells #[.slice A0_0 l0_0.length c0_0] 26 (0, 0)) (by (with_reducible repeat (first | refine blk_drewN ?_ _ | refine blk_drew ?_ | refine blk_alloc ?_ _)); refine blk_far ?_ NB108_110.out _; (with_reducible repeat (first | refine blk_drewN ?_ _ | refine blk_drew ?_ | refine blk_alloc ?_ _)); refine blk_far ?_ NB108_110.out _; (with_reducible repeat (first | refine blk_drewN ?_ _ | refine blk_drew ?_ | refine blk_alloc ?_ _)); refine blk_far ?_ NB108_110.out _; (with_reducible repeat (first | refine blk_drewN ?_ _ | refine blk_drew ?_ | refine blk_alloc ?_ _)); refine blk_far ?_ NB108_110.out _; (with_reducible repeat (first | refine blk_drewN ?_ _ | refine blk_drew ?_ | refine blk_alloc ?_ _)); exact BK108.out) hb); have n1_ := am_ (blk_below (g := gb109) (o := .cells #[.slice none 0 0] 26 (0, 0)) (by (with_reducible repeat (first | refine blk_drewN ?_ _ | refine blk_drew ?_ | refine blk_alloc ?_ _)); refine blk_far ?_ NB109_110.out _; (with_reducible repeat (first | refine blk_drewN ?_ _ | refine blk_drew ?_ | refine blk_alloc ?_ _)); refine blk_far ?_ NB109_110.out _; (with_reducible repeat (first | refine blk_drewN ?_ _ | refine blk_drew ?_ | refine blk_alloc ?_ _)); refine blk_far ?_ NB109_110.out _; (with_reducible repeat (first | refine blk_drewN ?_ _ | refine blk_drew ?_ | refine blk_alloc ?_ _)); refine blk_far ?_ NB109_110.out _; (with_reducible repeat (first | refine blk_drewN ?_ _ | refine blk_drew ?_ | refine blk_alloc ?_ _)); exact BK109.out) hb); have n2_ := am_ (blk_below (g := gb110) (o := .cells #[.int .i64 a1, .int .i64 a2, .int .i64 a3, .bool false] 33 (0, 0)) (by (with_reducible repeat (first | refine blk_drewN ?_ _ | refine blk_drew ?_ | refine blk_alloc ?_ _)); refine blk_put (cs := #[.int .i64 a1, .int .i64 a2, .int .i64 a3, .bool false]) ?_ 3 _ rfl; (with_reducible repeat (first | refine blk_drewN ?_ _ | refine blk_drew ?_ | refine blk_alloc ?_ _)); refine blk_put (cs := #[.int .i64 a1, .int .i64 a2, .int .i64 0, .bool false]) ?_ 2 _ rfl; (with_reducible repeat (first | refine blk_drewN ?_ _ | refine blk_drew ?_ | refine blk_alloc ?_ _)); refine blk_put (cs := #[.int .i64 a1, .int .i64 0, .int .i64 0, .bool false]) ?_ 1 _ rfl; (with_reducible repeat (first | refine blk_drewN ?_ _ | refine blk_drew ?_ | refine blk_alloc ?_ _)); refine blk_put (cs := #[.int .i64 0, .int .i64 0, .int .i64 0, .bool false]) ?_ 0 _ rfl; (with_reducible repeat (first | refine blk_drewN ?_ _ | refine blk_drew ?_ | refine blk_alloc ?_ _)); exact BK110.out) hb); have n3_ := am_ (below_step (be_ HB.out) hb); clear BK108; clear BK109; clear BK110; clear HB; have BK108 := n0_; have BK109 := n1_; have BK110 := n2_; have HB := n3_; clear n0_ n1_ n2_ n3_; (try clear hb); (try clear hb2); (try clear hk); (try clear hi)))
   go_meet
   case rel => exact ⟨_, (true), (by first | rfl | (simp; done) | (simp [*]; done)), H', ⟨by first | omega | exact Nat.le_refl _⟩, ⟨bk_ BK108.out⟩, ⟨bk_ BK109.out⟩, ⟨bk_ BK110.out⟩, ⟨be_ HB.out⟩⟩
 case rest =>
  clear HC5
  try clear c1
  try clear c2
  try clear p2
  try clear c9
  try clear c10
  try clear c13
  try clear c15
  try clear c16
  try clear c19
  try clear c22
  try clear c23
  try clear hcz11_0
  try clear hcz11_1
  try clear hcz11_2
  try clear hcz11_3
  try clear hcz17_0
  try clear hcz20_0
  try clear hcz20_1
  try clear hcz20_2
  try clear hcz20_3
  try clear hcz24_0
  try clear hfz11_0
  try clear hfz11_1
  try clear hfz11_2
  try clear hfz11_3
  try clear hfz17_0
  try clear hfz20_0
  try clear hfz20_1
  try clear hfz20_2
  try clear hfz20_3
  try clear hfz24_0
  obtain ⟨kq, x23_4, rfl, HA, HJ4, BK108, BK109, BK110, HB⟩ := hcut
  cases kq with
  | zero => exact absurd HA.out (by simp [oplist_Do.j0])
  | succ kj4 =>
   have H := HA.out
   clear HA
   simp only [oplist_Do.j0] at H
   by_cases c26 : x23_4 = true
   ·subst c26
    have H1 : (some (([] : List (S33)), 1)) = some (r1, r2) := by rw [if_pos rfl] at H; exact H
    clear H
    have H := H1
    clear H1
    simp only [Option.some.injEq, Prod.mk.injEq] at H
    obtain ⟨rfl, rfl⟩ := H
    have hnb27 := NB109_108.out
    have hnc27 := NB108_109.out
    have hnb28 := NB109_110.out
    have hnc28 := NB110_109.out
    have hcz29_0 : wc.cell? ⟨gb109, 0, none⟩ = some (.slice none 0 0) := (blk_cell BK109.out 0).trans rfl
    have hfz29_0 := blk_frozen BK109.out 0
    go_wp2
    refine bodyPost_ret (results_ct rfl _ _ gb109 26 #[.slice none 0 0] (0, 0) _ rfl (by (with_reducible repeat (first | refine blk_drewN ?_ _ | refine blk_drew ?_ | refine blk_alloc ?_ _)); refine blk_put (cs := #[.slice none 0 0]) ?_ 0 _ rfl; (with_reducible repeat (first | refine blk_drewN ?_ _ | refine blk_drew ?_ | refine blk_alloc ?_ _)); exact BK109.out) Try.underlying26 rfl (by kernel_rfl)) rfl ?_
    exact ⟨_, by first | rfl | (simp [errW_none, errW_some] <;> rfl) | (simp [*, errW_none, errW_some] <;> rfl), by first | exact Kd.R_nil _ _ _ _ _ | exact Kd.N_nil _ _ _ _ _ | exact Kd.V_nil _ _ _ _ _ | exact Kd.Q_nil _ _ _ _ _ | exact Kd.S_nil _ _ _ _ _, be_ HB.out⟩
   ·replace c26 := Bool.eq_false_iff.mpr c26
    subst c26
    have H1 : ((oplist_Entry_31.f l0_0).bind fun t113 => ((some (([(⟨a1, a2, a3, false⟩ : S33)] : List (S33)) : List (S33))).bind fun y116 => (if t113.length + y116.length < 4398046511104 then ((some (t113 ++ y116 : List (S33))).bind fun y119 => ((oplist_Sane.f y119).bind fun t123 => (if t123 = true then (some (y119, 0)) else (some (([] : List (S33)), 13))))) else (none)))) = some (r1, r2) := by rw [if_neg (show ¬ (false = true) by decide)] at H; exact H
    clear H
    have H := H1
    clear H1
    replace H := Option.bind_eq_some_iff.mp H
    obtain ⟨t113, A300, H⟩ := H
    replace H : ((some (([(⟨a1, a2, a3, false⟩ : S33)] : List (S33)) : List (S33))).bind fun y116 => (if t113.length + y116.length < 4398046511104 then ((some (t113 ++ y116 : List (S33))).bind fun y119 => ((oplist_Sane.f y119).bind fun t123 => (if t123 = true then (some (y119, 0)) else (some (([] : List (S33)), 13))))) else (none))) = some (r1, r2) := H
    have A30 := am_ A300
    clear A300
    obtain ⟨y116, hy116⟩ : ∃ y_ : List (S33), y_ = (([(⟨a1, a2, a3, false⟩ : S33)] : List (S33))) := ⟨_, rfl⟩
    replace H : (if t113.length + y116.length < 4398046511104 then ((some (t113 ++ y116 : List (S33))).bind fun y119 => ((oplist_Sane.f y119).bind fun t123 => (if t123 = true then (some (y119, 0)) else (some (([] : List (S33)), 13))))) else (none)) = some (r1, r2) := by first | (rw [hy116]; with_reducible exact H) | (have H2_ := (Option.bind_some _ _).symm.trans H; rw [hy116]; with_reducible exact H2_) | (have H2_ := (Option.bind_some _ _).symm.trans H; with_reducible exact H2_) | with_reducible exact H | (rw [hy116]; exact H) | exact H
    have Ny116 := am_ hy116
    clear hy116
    by_cases c31 : t113.length + y116.length < 4398046511104
    ·rw [if_pos c31] at H
     have LMc31 := am_ c31
     clear c31
     obtain ⟨y119, hy119⟩ : ∃ y_ : List (S33), y_ = (t113 ++ y116) := ⟨_, rfl⟩
     replace H : ((oplist_Sane.f y119).bind fun t123 => (if t123 = true then (some (y119, 0)) else (some (([] : List (S33)), 13)))) = some (r1, r2) := by first | (rw [hy119]; with_reducible exact H) | (have H2_ := (Option.bind_some _ _).symm.trans H; rw [hy119]; with_reducible exact H2_) | (have H2_ := (Option.bind_some _ _).symm.trans H; with_reducible exact H2_) | with_reducible exact H | (rw [hy119]; exact H) | exact H
     have Ny119 := am_ hy119
     clear hy119
     replace H := Option.bind_eq_some_iff.mp H
     obtain ⟨t123, A320, H⟩ := H
     replace H : (if t123 = true then (some (y119, 0)) else (some (([] : List (S33)), 13))) = some (r1, r2) := H
     have A32 := am_ A320
     clear A320
     by_cases c33 : t123 = true
     ·subst c33
      have H1 : (some (y119, 0)) = some (r1, r2) := by rw [if_pos rfl] at H; exact H
      clear H
      have H := H1
      clear H1
      simp only [Option.some.injEq, Prod.mk.injEq] at H
      obtain ⟨rfl, rfl⟩ := H
      try go_wp2
      have n0_ := am_ (blk_drew BK108.out)
      have n1_ := am_ (blk_drew BK109.out)
      have n2_ := am_ (blk_drew BK110.out)
      have n3_ := am_ (below_drew1 HB.out)
      clear BK108
      clear BK109
      clear BK110
      clear HB
      have BK108 := n0_
      have BK109 := n1_
      have BK110 := n2_
      have HB := n3_
      clear n0_ n1_ n2_ n3_
      refine start_ (n := 9) (S := fun w' => w'.cell? ⟨gb108, 0, none⟩ = some (.slice A0_0 l0_0.length c0_0) ∧ w'.cell? ⟨gb110, 0, none⟩ = some (.int .i64 a1) ∧ w'.cell? ⟨gb110, 1, none⟩ = some (.int .i64 a2) ∧ w'.cell? ⟨gb110, 2, none⟩ = some (.int .i64 a3) ∧ w'.cell? ⟨gb110, 3, none⟩ = some (.bool false)) (ds := []) doA_a0 (by kernel_rfl) rfl rfl ⟨(blk_cell BK108.out 0).trans rfl, (blk_cell BK110.out 0).trans rfl, (blk_cell BK110.out 1).trans rfl, (blk_cell BK110.out 2).trans rfl, (blk_cell BK110.out 3).trans rfl⟩ (fun hHeld => ?_); refine with_tabW oplist_Do.tab4 oplist_Do.bits4 (fun HT_ HW_ => ?_)
      generalize wc.drew = w34 at BK108 BK109 BK110 HB hHeld ⊢
      refine pure_ (i := 0) (N := some 25) (v := ?_) (a' := ?_) doA_a1 rfl rfl (any_of HT_.out (by kernel_rfl)) (fun _ _ _ h => h) (Or.inl ⟨by rfl, ?_⟩) ?_ ?_
      rotate_left
      ·intro w'
       go_simp
       with_reducible rfl
      rotate_left
      ·simp only [Act.put, List.setIfInBounds_toArray, List.set_cons_zero, List.set_cons_succ, i64_w, i32_w]
       rfl
      refine take_ (i := 1) (N := some 26) (v := ?_) (a' := ?_) doA_a2 rfl rfl (take_ofW HT_.out HW_.out (by kernel_rfl)) (fun _ _ _ h => h) (Or.inl ⟨by rfl, ?_⟩) hHeld ?_ ?_
      rotate_left
      ·rintro w' ⟨s0, s1, s2, s3, s4⟩
       go_simp
       with_reducible rfl
      rotate_left
      ·simp only [Act.put, List.setIfInBounds_toArray, List.set_cons_zero, List.set_cons_succ, i64_w, i32_w]
       rfl
      refine take_ (i := 3) (N := some 28) (v := ?_) (a' := ?_) doA_a3 rfl rfl (take_ofW HT_.out HW_.out (by kernel_rfl)) (fun _ _ _ h => h) (Or.inl ⟨by rfl, ?_⟩) hHeld ?_ ?_
      rotate_left
      ·rintro w' ⟨s0, s1, s2, s3, s4⟩
       go_simp
       with_reducible rfl
      rotate_left
      ·simp only [Act.put, List.setIfInBounds_toArray, List.set_cons_zero, List.set_cons_succ, i64_w, i32_w]
       rfl
      refine join_ (σ := Value × Value × Value × Nat) 1 #[true, true, true, true, true, true, true, true, false] (fun s_ => [(27, s_.1), (29, s_.2.1), (30, s_.2.2.1), (11, .pointer (some ⟨s_.2.2.2, 0, none⟩)), (31, .agg #[s_.2.2.1])]) (fun s_ w' => (w'.cell? ⟨gb108, 0, none⟩ = some (.slice A0_0 l0_0.length c0_0) ∧ w'.cell? ⟨gb110, 0, none⟩ = some (.int .i64 a1) ∧ w'.cell? ⟨gb110, 1, none⟩ = some (.int .i64 a2) ∧ w'.cell? ⟨gb110, 2, none⟩ = some (.int .i64 a3) ∧ w'.cell? ⟨gb110, 3, none⟩ = some (.bool false)) ∧ (Kd.R k33 33 w' w.heap.size (fun k_ => some k_ ≠ (s_.2.2.1 : Value).ownBlock ∧ k_ ≠ gb110) s_.2.1 y116) ∧ (Kd.R k33 33 w' w.heap.size (fun k_ => some k_ ≠ (s_.2.1 : Value).ownBlock ∧ k_ ≠ gb110) s_.2.2.1 y119) ∧ (w'.heap[gb108]? = some (.cells #[.slice A0_0 l0_0.length c0_0] 26 (0, 0))) ∧ (w'.heap[gb109]? = some (.cells #[.slice none 0 0] 26 (0, 0))) ∧ (w'.heap[gb110]? = some (.cells #[.int .i64 a1, .int .i64 a2, .int .i64 a3, .bool false] 33 (0, 0))) ∧ (w'.heap[s_.2.2.2]? = some (.cells #[.slice none 0 0] 26 (0, 0))) ∧ (w.heap.size ≤ s_.2.2.2) ∧ (w.heap.size ≤ s_.2.2.2) ∧ (gb108 ≠ s_.2.2.2) ∧ (s_.2.2.2 ≠ gb108) ∧ (gb109 ≠ s_.2.2.2) ∧ (s_.2.2.2 ≠ gb109) ∧ (gb110 ≠ s_.2.2.2) ∧ (s_.2.2.2 ≠ gb110) ∧ (Below w.heap.size w w')) ?_ ?_
      rotate_left
      ·intro hJ2_4_5_7
       refine join_ (σ := Value × Value × Value) 2 #[true, true, true, true, true, true, true, false, false] (fun s_ => [(27, s_.1), (29, s_.2.1), (30, s_.2.2), (31, .agg #[s_.2.2])]) (fun s_ w' => (w'.cell? ⟨gb108, 0, none⟩ = some (.slice A0_0 l0_0.length c0_0) ∧ w'.cell? ⟨gb110, 0, none⟩ = some (.int .i64 a1) ∧ w'.cell? ⟨gb110, 1, none⟩ = some (.int .i64 a2) ∧ w'.cell? ⟨gb110, 2, none⟩ = some (.int .i64 a3) ∧ w'.cell? ⟨gb110, 3, none⟩ = some (.bool false)) ∧ (Kd.R k33 33 w' w.heap.size (fun k_ => some k_ ≠ (s_.2.2 : Value).ownBlock ∧ k_ ≠ gb110) s_.2.1 y116) ∧ (Kd.R k33 33 w' w.heap.size (fun k_ => some k_ ≠ (s_.2.1 : Value).ownBlock ∧ k_ ≠ gb110) s_.2.2 y119) ∧ (w'.heap[gb108]? = some (.cells #[.slice A0_0 l0_0.length c0_0] 26 (0, 0))) ∧ (w'.heap[gb109]? = some (.cells #[.slice none 0 0] 26 (0, 0))) ∧ (w'.heap[gb110]? = some (.cells #[.int .i64 a1, .int .i64 a2, .int .i64 a3, .bool false] 33 (0, 0))) ∧ (Below w.heap.size w w')) ?_ ?_
       rotate_left
       ·intro hJ2_4_5
        refine join_ (σ := Value × Value × Nat) 3 #[true, true, true, true, true, false, false, true, false] (fun s_ => [(27, s_.1), (29, s_.2.1), (11, .pointer (some ⟨s_.2.2, 0, none⟩))]) (fun s_ w' => (w'.cell? ⟨gb108, 0, none⟩ = some (.slice A0_0 l0_0.length c0_0) ∧ w'.cell? ⟨gb110, 0, none⟩ = some (.int .i64 a1) ∧ w'.cell? ⟨gb110, 1, none⟩ = some (.int .i64 a2) ∧ w'.cell? ⟨gb110, 2, none⟩ = some (.int .i64 a3) ∧ w'.cell? ⟨gb110, 3, none⟩ = some (.bool false)) ∧ (Kd.R k33 33 w' w.heap.size (fun k_ => some k_ ≠ (s_.2.1 : Value).ownBlock ∧ k_ ≠ gb110) s_.1 t113) ∧ (Kd.R k33 33 w' w.heap.size (fun k_ => some k_ ≠ (s_.1 : Value).ownBlock ∧ k_ ≠ gb110) s_.2.1 y116) ∧ (w'.heap[gb108]? = some (.cells #[.slice A0_0 l0_0.length c0_0] 26 (0, 0))) ∧ (w'.heap[gb109]? = some (.cells #[.slice none 0 0] 26 (0, 0))) ∧ (w'.heap[gb110]? = some (.cells #[.int .i64 a1, .int .i64 a2, .int .i64 a3, .bool false] 33 (0, 0))) ∧ (w'.heap[s_.2.2]? = some (.cells #[.slice none 0 0] 26 (0, 0))) ∧ (w.heap.size ≤ s_.2.2) ∧ (w.heap.size ≤ s_.2.2) ∧ (gb108 ≠ s_.2.2) ∧ (s_.2.2 ≠ gb108) ∧ (gb109 ≠ s_.2.2) ∧ (s_.2.2 ≠ gb109) ∧ (gb110 ≠ s_.2.2) ∧ (s_.2.2 ≠ gb110) ∧ (Below w.heap.size w w')) ?_ ?_
        rotate_left
        ·intro hJ2_4_7
         refine join_ (σ := Value × Value) 4 #[true, true, true, true, true, false, false, false, false] (fun s_ => [(27, s_.1), (29, s_.2)]) (fun s_ w' => (w'.cell? ⟨gb108, 0, none⟩ = some (.slice A0_0 l0_0.length c0_0) ∧ w'.cell? ⟨gb110, 0, none⟩ = some (.int .i64 a1) ∧ w'.cell? ⟨gb110, 1, none⟩ = some (.int .i64 a2) ∧ w'.cell? ⟨gb110, 2, none⟩ = some (.int .i64 a3) ∧ w'.cell? ⟨gb110, 3, none⟩ = some (.bool false)) ∧ (Kd.R k33 33 w' w.heap.size (fun k_ => some k_ ≠ (s_.2 : Value).ownBlock ∧ k_ ≠ gb110) s_.1 t113) ∧ (Kd.R k33 33 w' w.heap.size (fun k_ => some k_ ≠ (s_.1 : Value).ownBlock ∧ k_ ≠ gb110) s_.2 y116) ∧ (w'.heap[gb108]? = some (.cells #[.slice A0_0 l0_0.length c0_0] 26 (0, 0))) ∧ (w'.heap[gb109]? = some (.cells #[.slice none 0 0] 26 (0, 0))) ∧ (w'.heap[gb110]? = some (.cells #[.int .i64 a1, .int .i64 a2, .int .i64 a3, .bool false] 33 (0, 0))) ∧ (Below w.heap.size w w')) ?_ ?_
         rotate_left
         ·intro hJ2_4
          refine join_ (σ := Value × Nat) 4 #[true, true, true, true, false, false, false, true, false] (fun s_ => [(27, s_.1), (11, .pointer (some ⟨s_.2, 0, none⟩))]) (fun s_ w' => (w'.cell? ⟨gb108, 0, none⟩ = some (.slice A0_0 l0_0.length c0_0) ∧ w'.cell? ⟨gb110, 0, none⟩ = some (.int .i64 a1) ∧ w'.cell? ⟨gb110, 1, none⟩ = some (.int .i64 a2) ∧ w'.cell? ⟨gb110, 2, none⟩ = some (.int .i64 a3) ∧ w'.cell? ⟨gb110, 3, none⟩ = some (.bool false)) ∧ (Kd.R k33 33 w' w.heap.size (fun k_ => k_ ≠ gb110) s_.1 t113) ∧ (w'.heap[gb108]? = some (.cells #[.slice A0_0 l0_0.length c0_0] 26 (0, 0))) ∧ (w'.heap[gb109]? = some (.cells #[.slice none 0 0] 26 (0, 0))) ∧ (w'.heap[gb110]? = some (.cells #[.int .i64 a1, .int .i64 a2, .int .i64 a3, .bool false] 33 (0, 0))) ∧ (w'.heap[s_.2]? = some (.cells #[.slice none 0 0] 26 (0, 0))) ∧ (w.heap.size ≤ s_.2) ∧ (w.heap.size ≤ s_.2) ∧ (gb108 ≠ s_.2) ∧ (s_.2 ≠ gb108) ∧ (gb109 ≠ s_.2) ∧ (s_.2 ≠ gb109) ∧ (gb110 ≠ s_.2) ∧ (s_.2 ≠ gb110) ∧ (Below w.heap.size w w')) ?_ ?_
          rotate_left
          ·intro hJ2_7
           refine join_ (σ := Value × Nat) 4 #[true, true, false, true, true, false, false, true, false] (fun s_ => [(29, s_.1), (11, .pointer (some ⟨s_.2, 0, none⟩))]) (fun s_ w' => (w'.cell? ⟨gb108, 0, none⟩ = some (.slice A0_0 l0_0.length c0_0) ∧ w'.cell? ⟨gb110, 0, none⟩ = some (.int .i64 a1) ∧ w'.cell? ⟨gb110, 1, none⟩ = some (.int .i64 a2) ∧ w'.cell? ⟨gb110, 2, none⟩ = some (.int .i64 a3) ∧ w'.cell? ⟨gb110, 3, none⟩ = some (.bool false)) ∧ (Kd.R k33 33 w' w.heap.size (fun k_ => k_ ≠ gb110) s_.1 y116) ∧ (w'.heap[gb108]? = some (.cells #[.slice A0_0 l0_0.length c0_0] 26 (0, 0))) ∧ (w'.heap[gb109]? = some (.cells #[.slice none 0 0] 26 (0, 0))) ∧ (w'.heap[gb110]? = some (.cells #[.int .i64 a1, .int .i64 a2, .int .i64 a3, .bool false] 33 (0, 0))) ∧ (w'.heap[s_.2]? = some (.cells #[.slice none 0 0] 26 (0, 0))) ∧ (w.heap.size ≤ s_.2) ∧ (w.heap.size ≤ s_.2) ∧ (gb108 ≠ s_.2) ∧ (s_.2 ≠ gb108) ∧ (gb109 ≠ s_.2) ∧ (s_.2 ≠ gb109) ∧ (gb110 ≠ s_.2) ∧ (s_.2 ≠ gb110) ∧ (Below w.heap.size w w')) ?_ ?_
           rotate_left
           ·intro hJ4_7
            refine join_ (σ := Value) 5 #[true, true, true, true, false, false, false, false, false] (fun s_ => [(27, s_)]) (fun s_ w' => (w'.cell? ⟨gb108, 0, none⟩ = some (.slice A0_0 l0_0.length c0_0) ∧ w'.cell? ⟨gb110, 0, none⟩ = some (.int .i64 a1) ∧ w'.cell? ⟨gb110, 1, none⟩ = some (.int .i64 a2) ∧ w'.cell? ⟨gb110, 2, none⟩ = some (.int .i64 a3) ∧ w'.cell? ⟨gb110, 3, none⟩ = some (.bool false)) ∧ (Kd.R k33 33 w' w.heap.size (fun k_ => k_ ≠ gb110) s_ t113) ∧ (w'.heap[gb108]? = some (.cells #[.slice A0_0 l0_0.length c0_0] 26 (0, 0))) ∧ (w'.heap[gb109]? = some (.cells #[.slice none 0 0] 26 (0, 0))) ∧ (w'.heap[gb110]? = some (.cells #[.int .i64 a1, .int .i64 a2, .int .i64 a3, .bool false] 33 (0, 0))) ∧ (Below w.heap.size w w')) ?_ ?_
            rotate_left
            ·intro hJ2
             refine join_ (σ := Value) 5 #[true, true, false, true, true, false, false, false, false] (fun s_ => [(29, s_)]) (fun s_ w' => (w'.cell? ⟨gb108, 0, none⟩ = some (.slice A0_0 l0_0.length c0_0) ∧ w'.cell? ⟨gb110, 0, none⟩ = some (.int .i64 a1) ∧ w'.cell? ⟨gb110, 1, none⟩ = some (.int .i64 a2) ∧ w'.cell? ⟨gb110, 2, none⟩ = some (.int .i64 a3) ∧ w'.cell? ⟨gb110, 3, none⟩ = some (.bool false)) ∧ (Kd.R k33 33 w' w.heap.size (fun k_ => k_ ≠ gb110) s_ y116) ∧ (w'.heap[gb108]? = some (.cells #[.slice A0_0 l0_0.length c0_0] 26 (0, 0))) ∧ (w'.heap[gb109]? = some (.cells #[.slice none 0 0] 26 (0, 0))) ∧ (w'.heap[gb110]? = some (.cells #[.int .i64 a1, .int .i64 a2, .int .i64 a3, .bool false] 33 (0, 0))) ∧ (Below w.heap.size w w')) ?_ ?_
             rotate_left
             ·intro hJ4
              refine join_ (σ := Nat) 5 #[true, true, false, true, false, false, false, true, false] (fun s_ => [(11, .pointer (some ⟨s_, 0, none⟩))]) (fun s_ w' => (w'.cell? ⟨gb108, 0, none⟩ = some (.slice A0_0 l0_0.length c0_0) ∧ w'.cell? ⟨gb110, 0, none⟩ = some (.int .i64 a1) ∧ w'.cell? ⟨gb110, 1, none⟩ = some (.int .i64 a2) ∧ w'.cell? ⟨gb110, 2, none⟩ = some (.int .i64 a3) ∧ w'.cell? ⟨gb110, 3, none⟩ = some (.bool false)) ∧ (w'.heap[gb108]? = some (.cells #[.slice A0_0 l0_0.length c0_0] 26 (0, 0))) ∧ (w'.heap[gb109]? = some (.cells #[.slice none 0 0] 26 (0, 0))) ∧ (w'.heap[gb110]? = some (.cells #[.int .i64 a1, .int .i64 a2, .int .i64 a3, .bool false] 33 (0, 0))) ∧ (w'.heap[s_]? = some (.cells #[.slice none 0 0] 26 (0, 0))) ∧ (w.heap.size ≤ s_) ∧ (w.heap.size ≤ s_) ∧ (gb108 ≠ s_) ∧ (s_ ≠ gb108) ∧ (gb109 ≠ s_) ∧ (s_ ≠ gb109) ∧ (gb110 ≠ s_) ∧ (s_ ≠ gb110) ∧ (Below w.heap.size w w')) ?_ ?_
              rotate_left
              ·intro hJ7
               refine three_ (i := 2) (j := 4) (k := 7) (Ni := some 27) (Nj := some 29) (Nk := some 11) #[true, true, true, true, false, false, false, false, false] #[true, true, false, true, true, false, false, false, false] #[true, true, false, true, false, false, false, true, false] rfl rfl rfl rfl rfl rfl (three_of HT_.out (by kernel_rfl)) (by decide) (by decide) (by decide) (fun K hK => ?_) (fun K hK => ?_) (fun K hK => ?_)
               ·skip
                refine goes_ Try.func31 (by kernel_rfl) rfl #[.slice A0_0 l0_0.length c0_0] (by rfl) rfl rfl ma_ ?_
                with_reducible refine (oplist_Entry_31.calls _ _ l0_0 t113 _ ?side1 ?side2 A30.out).mono ?_
                (case side1 => repeat (first | exact (Kd.C_below HR0_0.out HB.out) | (with_reducible refine Kd.C_alloc ?_ _) | (with_reducible refine Kd.C_drewN ?_ _) | (with_reducible refine Kd.C_drew ?_)))
                (case side2 => exact HC0_0.out)
                rintro e w35 ⟨v114, rfl, ho0, hb⟩
                refine ⟨_, rfl, ?_⟩
                have n0_ := am_ (Kd.R_lower (Kd.R_newB ho0 (g := gb110) (o := .cells #[.int .i64 a1, .int .i64 a2, .int .i64 a3, .bool false] 33 (0, 0)) (bk_ BK110.out)) (below_size (be_ HB.out)))
                have n1_ := am_ (bb_ BK108.out hb)
                have n2_ := am_ (bb_ BK109.out hb)
                have n3_ := am_ (bb_ BK110.out hb)
                have n4_ := am_ (below_step (be_ HB.out) hb)
                clear BK108
                clear BK109
                clear BK110
                clear HB
                have HO115 := n0_
                have BK108 := n1_
                have BK109 := n2_
                have BK110 := n3_
                have HB := n4_
                clear n0_ n1_ n2_ n3_ n4_
                (try clear hb)
                (try clear hb2)
                (try clear hk)
                (try clear hi)
                (try clear ho0)
                refine hK.out _ _ ⟨(blk_cell BK108.out 0).trans rfl, (blk_cell BK110.out 0).trans rfl, (blk_cell BK110.out 1).trans rfl, (blk_cell BK110.out 2).trans rfl, (blk_cell BK110.out 3).trans rfl⟩ (fun hHeld => ?_)
                clear hK K
                refine norm_ (a' := ?_) ?_ ?_
                rotate_left
                ·show Act.put _ (some 27) _ = _
                 simp only [Act.put, List.setIfInBounds_toArray, List.set_cons_zero, List.set_cons_succ, i64_w, i32_w]
                 rfl
                exact norm_ pu_ (hJ2 (v114) _ ⟨hHeld, (by (with_reducible repeat (first | apply Kd.R_alloc | apply Kd.R_drewN | apply Kd.R_drew)); exact Kd.R_mono HO115.out (fun _ hk => hk.2)), (bk_ BK108.out), (bk_ BK109.out), (bk_ BK110.out), (be_ HB.out)⟩)
               ·skip
                refine Kd.R_lit_step k33 _ 33 ?hg (N := 29) ?hd (xs := ([(⟨a1, a2, a3, false⟩ : S33)] : List (S33))) (inner := [.int .i64 a1, .int .i64 a2, .int .i64 a3, .bool false]) (ok := fun _ => True) (okp := fun _ => True) ?hr ?hp (fun _ hk => hk) trivial (Below.refl _ _) (Nat.le_refl _) (by simp) ?_; (case hd => rfl); (case hg => rfl); (case hr => first | (go_simp; done) | (go_simp; rfl)); (case hp => exact (Reps.c4 (show Kd.M k33 _ _ _ (⟨a1, a2, a3, false⟩ : S33) [.int .i64 a1, .int .i64 a2, .int .i64 a3, .bool false] from (k33_mkM _ _ _ (⟨a1, a2, a3, false⟩ : S33) )) (Reps.none _ _)))
                intro v117 w35 ho36 hb hg_ hnew_
                clear hg_ hnew_
                (first | rw [← Ny116.out] at ho36 | (simp only [Int.reduceToNat] at ho36; rw [← Ny116.out] at ho36))
                have n0_ := am_ (Kd.R_lower (Kd.R_newB ho36 (g := gb110) (o := .cells #[.int .i64 a1, .int .i64 a2, .int .i64 a3, .bool false] 33 (0, 0)) (bk_ BK110.out)) (below_size (be_ HB.out)))
                have n1_ := am_ (bb_ BK108.out hb)
                have n2_ := am_ (bb_ BK109.out hb)
                have n3_ := am_ (bb_ BK110.out hb)
                have n4_ := am_ (below_step (be_ HB.out) hb)
                clear BK108
                clear BK109
                clear BK110
                clear HB
                have HO118 := n0_
                have BK108 := n1_
                have BK109 := n2_
                have BK110 := n3_
                have HB := n4_
                clear n0_ n1_ n2_ n3_ n4_
                clear hb ho36
                refine hK.out _ _ ⟨(blk_cell BK108.out 0).trans rfl, (blk_cell BK110.out 0).trans rfl, (blk_cell BK110.out 1).trans rfl, (blk_cell BK110.out 2).trans rfl, (blk_cell BK110.out 3).trans rfl⟩ (fun hHeld => ?_)
                clear hK K
                refine norm_ (a' := ?_) ?_ ?_
                rotate_left
                ·show Act.put _ (some 29) _ = _
                 simp only [Act.put, List.setIfInBounds_toArray, List.set_cons_zero, List.set_cons_succ, i64_w, i32_w]
                 rfl
                exact norm_ pu_ (hJ4 (v117) _ ⟨hHeld, (by (with_reducible repeat (first | apply Kd.R_alloc | apply Kd.R_drewN | apply Kd.R_drew)); exact Kd.R_mono HO118.out (fun _ hk => hk.2)), (bk_ BK108.out), (bk_ BK109.out), (bk_ BK110.out), (be_ HB.out)⟩)
               ·skip
                refine box_step ?hg (N := 11) ?hd (cs := #[.slice none 0 0]) (t := 26) ?hr ?_; (case hd => rfl); (case hg => rfl); (case hr => first | (go_simp; done) | (go_simp; rfl))
                intro gb122 hg w35 hbox hb
                have n0_ := am_ (bb_ BK108.out hb)
                have n1_ := am_ (bb_ BK109.out hb)
                have n2_ := am_ (bb_ BK110.out hb)
                have n3_ := am_ (below_step (be_ HB.out) hb)
                have n4_ := am_ (hbox)
                have n5_ := am_ ((by rw [hg]; exact (below_size (be_ HB.out)) : w.heap.size ≤ gb122))
                have n6_ := am_ ((by rw [hg]; exact (below_size (be_ HB.out)) : w.heap.size ≤ gb122))
                have n7_ := am_ ((by rw [hg]; exact Nat.ne_of_lt (bl_ BK108.out) : gb108 ≠ gb122))
                have n8_ := am_ ((by rw [hg]; exact Nat.ne_of_gt (bl_ BK108.out) : gb122 ≠ gb108))
                have n9_ := am_ ((by rw [hg]; exact Nat.ne_of_lt (bl_ BK109.out) : gb109 ≠ gb122))
                have n10_ := am_ ((by rw [hg]; exact Nat.ne_of_gt (bl_ BK109.out) : gb122 ≠ gb109))
                have n11_ := am_ ((by rw [hg]; exact Nat.ne_of_lt (bl_ BK110.out) : gb110 ≠ gb122))
                have n12_ := am_ ((by rw [hg]; exact Nat.ne_of_gt (bl_ BK110.out) : gb122 ≠ gb110))
                clear BK108
                clear BK109
                clear BK110
                clear HB
                have BK108 := n0_
                have BK109 := n1_
                have BK110 := n2_
                have HB := n3_
                have BK122 := n4_
                have GW122 := n5_
                have GE122 := n6_
                have NB108_122 := n7_
                have NB122_108 := n8_
                have NB109_122 := n9_
                have NB122_109 := n10_
                have NB110_122 := n11_
                have NB122_110 := n12_
                clear n0_ n1_ n2_ n3_ n4_ n5_ n6_ n7_ n8_ n9_ n10_ n11_ n12_
                clear hb hbox hg
                refine hK.out _ _ ⟨(blk_cell BK108.out 0).trans rfl, (blk_cell BK110.out 0).trans rfl, (blk_cell BK110.out 1).trans rfl, (blk_cell BK110.out 2).trans rfl, (blk_cell BK110.out 3).trans rfl⟩ (fun hHeld => ?_)
                clear hK K
                refine norm_ (a' := ?_) ?_ ?_
                rotate_left
                ·show Act.put _ (some 11) _ = _
                 simp only [Act.put, List.setIfInBounds_toArray, List.set_cons_zero, List.set_cons_succ, i64_w, i32_w]
                 rfl
                exact norm_ pu_ (hJ7 (gb122) _ ⟨hHeld, (bk_ BK108.out), (bk_ BK109.out), (bk_ BK110.out), (bk_ BK122.out), GW122.out, GE122.out, NB108_122.out, NB122_108.out, NB109_122.out, NB122_109.out, NB110_122.out, NB122_110.out, (be_ HB.out)⟩)
              ·skip
               rintro gb122 w36 ⟨hS_, h0_, h1_, h2_, h3_, h4_, h5_, h6_, h7_, h8_, h9_, h10_, h11_, h12_⟩
               have n0_ : Aside0 (w36.heap[gb108]? = some (.cells #[.slice A0_0 l0_0.length c0_0] 26 (0, 0))) := ⟨h0_⟩
               have n1_ : Aside0 (w36.heap[gb109]? = some (.cells #[.slice none 0 0] 26 (0, 0))) := ⟨h1_⟩
               have n2_ : Aside0 (w36.heap[gb110]? = some (.cells #[.int .i64 a1, .int .i64 a2, .int .i64 a3, .bool false] 33 (0, 0))) := ⟨h2_⟩
               have n3_ : Aside0 (w36.heap[gb122]? = some (.cells #[.slice none 0 0] 26 (0, 0))) := ⟨h3_⟩
               have n4_ : Aside0 (w.heap.size ≤ gb122) := ⟨h4_⟩
               have n5_ : Aside0 (w.heap.size ≤ gb122) := ⟨h5_⟩
               have n6_ : Aside0 (gb108 ≠ gb122) := ⟨h6_⟩
               have n7_ : Aside0 (gb122 ≠ gb108) := ⟨h7_⟩
               have n8_ : Aside0 (gb109 ≠ gb122) := ⟨h8_⟩
               have n9_ : Aside0 (gb122 ≠ gb109) := ⟨h9_⟩
               have n10_ : Aside0 (gb110 ≠ gb122) := ⟨h10_⟩
               have n11_ : Aside0 (gb122 ≠ gb110) := ⟨h11_⟩
               have n12_ : Aside0 (Below w.heap.size w w36) := ⟨h12_⟩
               clear BK108
               clear BK109
               clear BK110
               clear HB
               clear h0_ h1_ h2_ h3_ h4_ h5_ h6_ h7_ h8_ h9_ h10_ h11_ h12_
               have BK108 := n0_
               have BK109 := n1_
               have BK110 := n2_
               have BK122 := n3_
               have GW122 := n4_
               have GE122 := n5_
               have NB108_122 := n6_
               have NB122_108 := n7_
               have NB109_122 := n8_
               have NB122_109 := n9_
               have NB110_122 := n10_
               have NB122_110 := n11_
               have HB := n12_
               clear n0_ n1_ n2_ n3_ n4_ n5_ n6_ n7_ n8_ n9_ n10_ n11_ n12_
               have hHeld : w36.cell? ⟨gb108, 0, none⟩ = some (.slice A0_0 l0_0.length c0_0) ∧ w36.cell? ⟨gb110, 0, none⟩ = some (.int .i64 a1) ∧ w36.cell? ⟨gb110, 1, none⟩ = some (.int .i64 a2) ∧ w36.cell? ⟨gb110, 2, none⟩ = some (.int .i64 a3) ∧ w36.cell? ⟨gb110, 3, none⟩ = some (.bool false) := hS_
               refine norm_ (a' := ?_) ?_ ?_
               rotate_left
               ·simp only [putAll, Act.put, List.setIfInBounds_toArray, List.set_cons_zero, List.set_cons_succ]
                rfl
               refine two_ (i := 2) (j := 4) (Ni := some 27) (Nj := some 29) #[true, true, true, true, false, false, false, true, false] #[true, true, false, true, true, false, false, true, false] rfl rfl rfl rfl (two_of HT_.out (by kernel_rfl)) (by decide) (by decide) (fun K hK => ?_) (fun K hK => ?_)
               ·skip
                refine goes_ Try.func31 (by kernel_rfl) rfl #[.slice A0_0 l0_0.length c0_0] (by rfl) rfl rfl ma_ ?_
                with_reducible refine (oplist_Entry_31.calls _ _ l0_0 t113 _ ?side1 ?side2 A30.out).mono ?_
                (case side1 => repeat (first | exact (Kd.C_below HR0_0.out HB.out) | (with_reducible refine Kd.C_alloc ?_ _) | (with_reducible refine Kd.C_drewN ?_ _) | (with_reducible refine Kd.C_drew ?_)))
                (case side2 => exact HC0_0.out)
                rintro e w37 ⟨v114, rfl, ho0, hb⟩
                refine ⟨_, rfl, ?_⟩
                have n0_ := am_ (Kd.R_lower (Kd.R_newB ho0 (g := gb110) (o := .cells #[.int .i64 a1, .int .i64 a2, .int .i64 a3, .bool false] 33 (0, 0)) (bk_ BK110.out)) (below_size (be_ HB.out)))
                have n1_ := am_ (bb_ BK108.out hb)
                have n2_ := am_ (bb_ BK109.out hb)
                have n3_ := am_ (bb_ BK110.out hb)
                have n4_ := am_ (bb_ BK122.out hb)
                have n5_ := am_ (below_step (be_ HB.out) hb)
                clear BK108
                clear BK109
                clear BK110
                clear BK122
                clear HB
                have HO115 := n0_
                have BK108 := n1_
                have BK109 := n2_
                have BK110 := n3_
                have BK122 := n4_
                have HB := n5_
                clear n0_ n1_ n2_ n3_ n4_ n5_
                (try clear hb)
                (try clear hb2)
                (try clear hk)
                (try clear hi)
                (try clear ho0)
                refine hK.out _ _ ⟨(blk_cell BK108.out 0).trans rfl, (blk_cell BK110.out 0).trans rfl, (blk_cell BK110.out 1).trans rfl, (blk_cell BK110.out 2).trans rfl, (blk_cell BK110.out 3).trans rfl⟩ (fun hHeld => ?_)
                clear hK K
                refine norm_ (a' := ?_) ?_ ?_
                rotate_left
                ·show Act.put _ (some 27) _ = _
                 simp only [Act.put, List.setIfInBounds_toArray, List.set_cons_zero, List.set_cons_succ, i64_w, i32_w]
                 rfl
                exact norm_ pu_ (hJ2_7 (v114, gb122) _ ⟨hHeld, (by (with_reducible repeat (first | apply Kd.R_alloc | apply Kd.R_drewN | apply Kd.R_drew)); exact Kd.R_mono HO115.out (fun _ hk => hk.2)), (bk_ BK108.out), (bk_ BK109.out), (bk_ BK110.out), (bk_ BK122.out), GW122.out, GE122.out, NB108_122.out, NB122_108.out, NB109_122.out, NB122_109.out, NB110_122.out, NB122_110.out, (be_ HB.out)⟩)
               ·skip
                refine Kd.R_lit_step k33 _ 33 ?hg (N := 29) ?hd (xs := ([(⟨a1, a2, a3, false⟩ : S33)] : List (S33))) (inner := [.int .i64 a1, .int .i64 a2, .int .i64 a3, .bool false]) (ok := fun _ => True) (okp := fun _ => True) ?hr ?hp (fun _ hk => hk) trivial (Below.refl _ _) (Nat.le_refl _) (by simp) ?_; (case hd => rfl); (case hg => rfl); (case hr => first | (go_simp; done) | (go_simp; rfl)); (case hp => exact (Reps.c4 (show Kd.M k33 _ _ _ (⟨a1, a2, a3, false⟩ : S33) [.int .i64 a1, .int .i64 a2, .int .i64 a3, .bool false] from (k33_mkM _ _ _ (⟨a1, a2, a3, false⟩ : S33) )) (Reps.none _ _)))
                intro v117 w37 ho38 hb hg_ hnew_
                clear hg_ hnew_
                (first | rw [← Ny116.out] at ho38 | (simp only [Int.reduceToNat] at ho38; rw [← Ny116.out] at ho38))
                have n0_ := am_ (Kd.R_lower (Kd.R_newB ho38 (g := gb110) (o := .cells #[.int .i64 a1, .int .i64 a2, .int .i64 a3, .bool false] 33 (0, 0)) (bk_ BK110.out)) (below_size (be_ HB.out)))
                have n1_ := am_ (bb_ BK108.out hb)
                have n2_ := am_ (bb_ BK109.out hb)
                have n3_ := am_ (bb_ BK110.out hb)
                have n4_ := am_ (bb_ BK122.out hb)
                have n5_ := am_ (below_step (be_ HB.out) hb)
                clear BK108
                clear BK109
                clear BK110
                clear BK122
                clear HB
                have HO118 := n0_
                have BK108 := n1_
                have BK109 := n2_
                have BK110 := n3_
                have BK122 := n4_
                have HB := n5_
                clear n0_ n1_ n2_ n3_ n4_ n5_
                clear hb ho38
                refine hK.out _ _ ⟨(blk_cell BK108.out 0).trans rfl, (blk_cell BK110.out 0).trans rfl, (blk_cell BK110.out 1).trans rfl, (blk_cell BK110.out 2).trans rfl, (blk_cell BK110.out 3).trans rfl⟩ (fun hHeld => ?_)
                clear hK K
                refine norm_ (a' := ?_) ?_ ?_
                rotate_left
                ·show Act.put _ (some 29) _ = _
                 simp only [Act.put, List.setIfInBounds_toArray, List.set_cons_zero, List.set_cons_succ, i64_w, i32_w]
                 rfl
                exact norm_ pu_ (hJ4_7 (v117, gb122) _ ⟨hHeld, (by (with_reducible repeat (first | apply Kd.R_alloc | apply Kd.R_drewN | apply Kd.R_drew)); exact Kd.R_mono HO118.out (fun _ hk => hk.2)), (bk_ BK108.out), (bk_ BK109.out), (bk_ BK110.out), (bk_ BK122.out), GW122.out, GE122.out, NB108_122.out, NB122_108.out, NB109_122.out, NB122_109.out, NB110_122.out, NB122_110.out, (be_ HB.out)⟩)
             ·skip
              rintro v117 w37 ⟨hS_, h0_, h1_, h2_, h3_, h4_⟩
              have n0_ : Aside0 (Kd.R k33 33 w37 w.heap.size (fun k_ => k_ ≠ gb110) v117 y116) := ⟨h0_⟩
              have n1_ : Aside0 (w37.heap[gb108]? = some (.cells #[.slice A0_0 l0_0.length c0_0] 26 (0, 0))) := ⟨h1_⟩
              have n2_ : Aside0 (w37.heap[gb109]? = some (.cells #[.slice none 0 0] 26 (0, 0))) := ⟨h2_⟩
              have n3_ : Aside0 (w37.heap[gb110]? = some (.cells #[.int .i64 a1, .int .i64 a2, .int .i64 a3, .bool false] 33 (0, 0))) := ⟨h3_⟩
              have n4_ : Aside0 (Below w.heap.size w w37) := ⟨h4_⟩
              clear BK108
              clear BK109
              clear BK110
              clear HB
              clear h0_ h1_ h2_ h3_ h4_
              have HO118 := n0_
              have BK108 := n1_
              have BK109 := n2_
              have BK110 := n3_
              have HB := n4_
              clear n0_ n1_ n2_ n3_ n4_
              have hHeld : w37.cell? ⟨gb108, 0, none⟩ = some (.slice A0_0 l0_0.length c0_0) ∧ w37.cell? ⟨gb110, 0, none⟩ = some (.int .i64 a1) ∧ w37.cell? ⟨gb110, 1, none⟩ = some (.int .i64 a2) ∧ w37.cell? ⟨gb110, 2, none⟩ = some (.int .i64 a3) ∧ w37.cell? ⟨gb110, 3, none⟩ = some (.bool false) := hS_
              refine norm_ (a' := ?_) ?_ ?_
              rotate_left
              ·simp only [putAll, Act.put, List.setIfInBounds_toArray, List.set_cons_zero, List.set_cons_succ]
               rfl
              refine two_ (i := 2) (j := 7) (Ni := some 27) (Nj := some 11) #[true, true, true, true, true, false, false, false, false] #[true, true, false, true, true, false, false, true, false] rfl rfl rfl rfl (two_of HT_.out (by kernel_rfl)) (by decide) (by decide) (fun K hK => ?_) (fun K hK => ?_)
              ·skip
               refine goes_ Try.func31 (by kernel_rfl) rfl #[.slice A0_0 l0_0.length c0_0] (by rfl) rfl rfl ma_ ?_
               with_reducible refine (oplist_Entry_31.calls _ _ l0_0 t113 _ ?side1 ?side2 A30.out).mono ?_
               (case side1 => repeat (first | exact (Kd.C_below HR0_0.out HB.out) | (with_reducible refine Kd.C_alloc ?_ _) | (with_reducible refine Kd.C_drewN ?_ _) | (with_reducible refine Kd.C_drew ?_)))
               (case side2 => exact HC0_0.out)
               rintro e w38 ⟨v114, rfl, ho0, hb⟩
               refine ⟨_, rfl, ?_⟩
               have n0_ := am_ (Kd.R_elder' (ro_ HO118.out) (Kd.R_base ho0) hb)
               have n1_ := am_ (Kd.R_lower (Kd.R_newB (Kd.R_new' ho0 (Kd.R_lt (ro_ HO118.out))) (g := gb110) (o := .cells #[.int .i64 a1, .int .i64 a2, .int .i64 a3, .bool false] 33 (0, 0)) (bk_ BK110.out)) (below_size (be_ HB.out)))
               have n2_ := am_ (bb_ BK108.out hb)
               have n3_ := am_ (bb_ BK109.out hb)
               have n4_ := am_ (bb_ BK110.out hb)
               have n5_ := am_ (below_step (be_ HB.out) hb)
               clear HO118
               clear BK108
               clear BK109
               clear BK110
               clear HB
               have HO118 := n0_
               have HO115 := n1_
               have BK108 := n2_
               have BK109 := n3_
               have BK110 := n4_
               have HB := n5_
               clear n0_ n1_ n2_ n3_ n4_ n5_
               (try clear hb)
               (try clear hb2)
               (try clear hk)
               (try clear hi)
               (try clear ho0)
               refine hK.out _ _ ⟨(blk_cell BK108.out 0).trans rfl, (blk_cell BK110.out 0).trans rfl, (blk_cell BK110.out 1).trans rfl, (blk_cell BK110.out 2).trans rfl, (blk_cell BK110.out 3).trans rfl⟩ (fun hHeld => ?_)
               clear hK K
               refine norm_ (a' := ?_) ?_ ?_
               rotate_left
               ·show Act.put _ (some 27) _ = _
                simp only [Act.put, List.setIfInBounds_toArray, List.set_cons_zero, List.set_cons_succ, i64_w, i32_w]
                rfl
               exact norm_ pu_ (hJ2_4 (v114, v117) _ ⟨hHeld, (by (with_reducible repeat (first | apply Kd.R_alloc | apply Kd.R_drewN | apply Kd.R_drew)); exact Kd.R_mono HO115.out (fun _ hk => ⟨hk.1.2, hk.2⟩)), (by (with_reducible repeat (first | apply Kd.R_alloc | apply Kd.R_drewN | apply Kd.R_drew)); exact Kd.R_mono HO118.out (fun _ hk => ⟨hk.2, hk.1⟩)), (bk_ BK108.out), (bk_ BK109.out), (bk_ BK110.out), (be_ HB.out)⟩)
              ·skip
               refine box_step ?hg (N := 11) ?hd (cs := #[.slice none 0 0]) (t := 26) ?hr ?_; (case hd => rfl); (case hg => rfl); (case hr => first | (go_simp; done) | (go_simp; rfl))
               intro gb122 hg w38 hbox hb
               have n0_ := am_ (Kd.R_below (ro_ HO118.out) hb)
               have n1_ := am_ (bb_ BK108.out hb)
               have n2_ := am_ (bb_ BK109.out hb)
               have n3_ := am_ (bb_ BK110.out hb)
               have n4_ := am_ (below_step (be_ HB.out) hb)
               have n5_ := am_ (hbox)
               have n6_ := am_ ((by rw [hg]; exact (below_size (be_ HB.out)) : w.heap.size ≤ gb122))
               have n7_ := am_ ((by rw [hg]; exact (below_size (be_ HB.out)) : w.heap.size ≤ gb122))
               have n8_ := am_ ((by rw [hg]; exact Nat.ne_of_lt (bl_ BK108.out) : gb108 ≠ gb122))
               have n9_ := am_ ((by rw [hg]; exact Nat.ne_of_gt (bl_ BK108.out) : gb122 ≠ gb108))
               have n10_ := am_ ((by rw [hg]; exact Nat.ne_of_lt (bl_ BK109.out) : gb109 ≠ gb122))
               have n11_ := am_ ((by rw [hg]; exact Nat.ne_of_gt (bl_ BK109.out) : gb122 ≠ gb109))
               have n12_ := am_ ((by rw [hg]; exact Nat.ne_of_lt (bl_ BK110.out) : gb110 ≠ gb122))
               have n13_ := am_ ((by rw [hg]; exact Nat.ne_of_gt (bl_ BK110.out) : gb122 ≠ gb110))
               clear HO118
               clear BK108
               clear BK109
               clear BK110
               clear HB
               have HO118 := n0_
               have BK108 := n1_
               have BK109 := n2_
               have BK110 := n3_
               have HB := n4_
               have BK122 := n5_
               have GW122 := n6_
               have GE122 := n7_
               have NB108_122 := n8_
               have NB122_108 := n9_
               have NB109_122 := n10_
               have NB122_109 := n11_
               have NB110_122 := n12_
               have NB122_110 := n13_
               clear n0_ n1_ n2_ n3_ n4_ n5_ n6_ n7_ n8_ n9_ n10_ n11_ n12_ n13_
               clear hb hbox hg
               refine hK.out _ _ ⟨(blk_cell BK108.out 0).trans rfl, (blk_cell BK110.out 0).trans rfl, (blk_cell BK110.out 1).trans rfl, (blk_cell BK110.out 2).trans rfl, (blk_cell BK110.out 3).trans rfl⟩ (fun hHeld => ?_)
               clear hK K
               refine norm_ (a' := ?_) ?_ ?_
               rotate_left
               ·show Act.put _ (some 11) _ = _
                simp only [Act.put, List.setIfInBounds_toArray, List.set_cons_zero, List.set_cons_succ, i64_w, i32_w]
                rfl
               exact norm_ pu_ (hJ4_7 (v117, gb122) _ ⟨hHeld, (ro_ HO118.out), (bk_ BK108.out), (bk_ BK109.out), (bk_ BK110.out), (bk_ BK122.out), GW122.out, GE122.out, NB108_122.out, NB122_108.out, NB109_122.out, NB122_109.out, NB110_122.out, NB122_110.out, (be_ HB.out)⟩)
            ·skip
             rintro v114 w36 ⟨hS_, h0_, h1_, h2_, h3_, h4_⟩
             have n0_ : Aside0 (Kd.R k33 33 w36 w.heap.size (fun k_ => k_ ≠ gb110) v114 t113) := ⟨h0_⟩
             have n1_ : Aside0 (w36.heap[gb108]? = some (.cells #[.slice A0_0 l0_0.length c0_0] 26 (0, 0))) := ⟨h1_⟩
             have n2_ : Aside0 (w36.heap[gb109]? = some (.cells #[.slice none 0 0] 26 (0, 0))) := ⟨h2_⟩
             have n3_ : Aside0 (w36.heap[gb110]? = some (.cells #[.int .i64 a1, .int .i64 a2, .int .i64 a3, .bool false] 33 (0, 0))) := ⟨h3_⟩
             have n4_ : Aside0 (Below w.heap.size w w36) := ⟨h4_⟩
             clear BK108
             clear BK109
             clear BK110
             clear HB
             clear h0_ h1_ h2_ h3_ h4_
             have HO115 := n0_
             have BK108 := n1_
             have BK109 := n2_
             have BK110 := n3_
             have HB := n4_
             clear n0_ n1_ n2_ n3_ n4_
             have hHeld : w36.cell? ⟨gb108, 0, none⟩ = some (.slice A0_0 l0_0.length c0_0) ∧ w36.cell? ⟨gb110, 0, none⟩ = some (.int .i64 a1) ∧ w36.cell? ⟨gb110, 1, none⟩ = some (.int .i64 a2) ∧ w36.cell? ⟨gb110, 2, none⟩ = some (.int .i64 a3) ∧ w36.cell? ⟨gb110, 3, none⟩ = some (.bool false) := hS_
             refine norm_ (a' := ?_) ?_ ?_
             rotate_left
             ·simp only [putAll, Act.put, List.setIfInBounds_toArray, List.set_cons_zero, List.set_cons_succ]
              rfl
             refine two_ (i := 4) (j := 7) (Ni := some 29) (Nj := some 11) #[true, true, true, true, true, false, false, false, false] #[true, true, true, true, false, false, false, true, false] rfl rfl rfl rfl (two_of HT_.out (by kernel_rfl)) (by decide) (by decide) (fun K hK => ?_) (fun K hK => ?_)
             ·skip
              refine Kd.R_lit_step k33 _ 33 ?hg (N := 29) ?hd (xs := ([(⟨a1, a2, a3, false⟩ : S33)] : List (S33))) (inner := [.int .i64 a1, .int .i64 a2, .int .i64 a3, .bool false]) (ok := fun _ => True) (okp := fun _ => True) ?hr ?hp (fun _ hk => hk) trivial (Below.refl _ _) (Nat.le_refl _) (by simp) ?_; (case hd => rfl); (case hg => rfl); (case hr => first | (go_simp; done) | (go_simp; rfl)); (case hp => exact (Reps.c4 (show Kd.M k33 _ _ _ (⟨a1, a2, a3, false⟩ : S33) [.int .i64 a1, .int .i64 a2, .int .i64 a3, .bool false] from (k33_mkM _ _ _ (⟨a1, a2, a3, false⟩ : S33) )) (Reps.none _ _)))
              intro v117 w37 ho38 hb hg_ hnew_
              clear hg_ hnew_
              (first | rw [← Ny116.out] at ho38 | (simp only [Int.reduceToNat] at ho38; rw [← Ny116.out] at ho38))
              have n0_ := am_ (Kd.R_elder' (ro_ HO115.out) (Kd.R_base ho38) hb)
              have n1_ := am_ (Kd.R_lower (Kd.R_newB (Kd.R_new' ho38 (Kd.R_lt (ro_ HO115.out))) (g := gb110) (o := .cells #[.int .i64 a1, .int .i64 a2, .int .i64 a3, .bool false] 33 (0, 0)) (bk_ BK110.out)) (below_size (be_ HB.out)))
              have n2_ := am_ (bb_ BK108.out hb)
              have n3_ := am_ (bb_ BK109.out hb)
              have n4_ := am_ (bb_ BK110.out hb)
              have n5_ := am_ (below_step (be_ HB.out) hb)
              clear HO115
              clear BK108
              clear BK109
              clear BK110
              clear HB
              have HO115 := n0_
              have HO118 := n1_
              have BK108 := n2_
              have BK109 := n3_
              have BK110 := n4_
              have HB := n5_
              clear n0_ n1_ n2_ n3_ n4_ n5_
              clear hb ho38
              refine hK.out _ _ ⟨(blk_cell BK108.out 0).trans rfl, (blk_cell BK110.out 0).trans rfl, (blk_cell BK110.out 1).trans rfl, (blk_cell BK110.out 2).trans rfl, (blk_cell BK110.out 3).trans rfl⟩ (fun hHeld => ?_)
              clear hK K
              refine norm_ (a' := ?_) ?_ ?_
              rotate_left
              ·show Act.put _ (some 29) _ = _
               simp only [Act.put, List.setIfInBounds_toArray, List.set_cons_zero, List.set_cons_succ, i64_w, i32_w]
               rfl
              exact norm_ pu_ (hJ2_4 (v114, v117) _ ⟨hHeld, (by (with_reducible repeat (first | apply Kd.R_alloc | apply Kd.R_drewN | apply Kd.R_drew)); exact Kd.R_mono HO115.out (fun _ hk => ⟨hk.2, hk.1⟩)), (by (with_reducible repeat (first | apply Kd.R_alloc | apply Kd.R_drewN | apply Kd.R_drew)); exact Kd.R_mono HO118.out (fun _ hk => ⟨hk.1.2, hk.2⟩)), (bk_ BK108.out), (bk_ BK109.out), (bk_ BK110.out), (be_ HB.out)⟩)
             ·skip
              refine box_step ?hg (N := 11) ?hd (cs := #[.slice none 0 0]) (t := 26) ?hr ?_; (case hd => rfl); (case hg => rfl); (case hr => first | (go_simp; done) | (go_simp; rfl))
              intro gb122 hg w37 hbox hb
              have n0_ := am_ (Kd.R_below (ro_ HO115.out) hb)
              have n1_ := am_ (bb_ BK108.out hb)
              have n2_ := am_ (bb_ BK109.out hb)
              have n3_ := am_ (bb_ BK110.out hb)
              have n4_ := am_ (below_step (be_ HB.out) hb)
              have n5_ := am_ (hbox)
              have n6_ := am_ ((by rw [hg]; exact (below_size (be_ HB.out)) : w.heap.size ≤ gb122))
              have n7_ := am_ ((by rw [hg]; exact (below_size (be_ HB.out)) : w.heap.size ≤ gb122))
              have n8_ := am_ ((by rw [hg]; exact Nat.ne_of_lt (bl_ BK108.out) : gb108 ≠ gb122))
              have n9_ := am_ ((by rw [hg]; exact Nat.ne_of_gt (bl_ BK108.out) : gb122 ≠ gb108))
              have n10_ := am_ ((by rw [hg]; exact Nat.ne_of_lt (bl_ BK109.out) : gb109 ≠ gb122))
              have n11_ := am_ ((by rw [hg]; exact Nat.ne_of_gt (bl_ BK109.out) : gb122 ≠ gb109))
              have n12_ := am_ ((by rw [hg]; exact Nat.ne_of_lt (bl_ BK110.out) : gb110 ≠ gb122))
              have n13_ := am_ ((by rw [hg]; exact Nat.ne_of_gt (bl_ BK110.out) : gb122 ≠ gb110))
              clear HO115
              clear BK108
              clear BK109
              clear BK110
              clear HB
              have HO115 := n0_
              have BK108 := n1_
              have BK109 := n2_
              have BK110 := n3_
              have HB := n4_
              have BK122 := n5_
              have GW122 := n6_
              have GE122 := n7_
              have NB108_122 := n8_
              have NB122_108 := n9_
              have NB109_122 := n10_
              have NB122_109 := n11_
              have NB110_122 := n12_
              have NB122_110 := n13_
              clear n0_ n1_ n2_ n3_ n4_ n5_ n6_ n7_ n8_ n9_ n10_ n11_ n12_ n13_
              clear hb hbox hg
              refine hK.out _ _ ⟨(blk_cell BK108.out 0).trans rfl, (blk_cell BK110.out 0).trans rfl, (blk_cell BK110.out 1).trans rfl, (blk_cell BK110.out 2).trans rfl, (blk_cell BK110.out 3).trans rfl⟩ (fun hHeld => ?_)
              clear hK K
              refine norm_ (a' := ?_) ?_ ?_
              rotate_left
              ·show Act.put _ (some 11) _ = _
               simp only [Act.put, List.setIfInBounds_toArray, List.set_cons_zero, List.set_cons_succ, i64_w, i32_w]
               rfl
              exact norm_ pu_ (hJ2_7 (v114, gb122) _ ⟨hHeld, (ro_ HO115.out), (bk_ BK108.out), (bk_ BK109.out), (bk_ BK110.out), (bk_ BK122.out), GW122.out, GE122.out, NB108_122.out, NB122_108.out, NB109_122.out, NB122_109.out, NB110_122.out, NB122_110.out, (be_ HB.out)⟩)
           ·skip
            rintro ⟨v117, gb122⟩ w38 ⟨hS_, h0_, h1_, h2_, h3_, h4_, h5_, h6_, h7_, h8_, h9_, h10_, h11_, h12_, h13_⟩
            have n0_ : Aside0 (Kd.R k33 33 w38 w.heap.size (fun k_ => k_ ≠ gb110) v117 y116) := ⟨h0_⟩
            have n1_ : Aside0 (w38.heap[gb108]? = some (.cells #[.slice A0_0 l0_0.length c0_0] 26 (0, 0))) := ⟨h1_⟩
            have n2_ : Aside0 (w38.heap[gb109]? = some (.cells #[.slice none 0 0] 26 (0, 0))) := ⟨h2_⟩
            have n3_ : Aside0 (w38.heap[gb110]? = some (.cells #[.int .i64 a1, .int .i64 a2, .int .i64 a3, .bool false] 33 (0, 0))) := ⟨h3_⟩
            have n4_ : Aside0 (w38.heap[gb122]? = some (.cells #[.slice none 0 0] 26 (0, 0))) := ⟨h4_⟩
            have n5_ : Aside0 (w.heap.size ≤ gb122) := ⟨h5_⟩
            have n6_ : Aside0 (w.heap.size ≤ gb122) := ⟨h6_⟩
            have n7_ : Aside0 (gb108 ≠ gb122) := ⟨h7_⟩
            have n8_ : Aside0 (gb122 ≠ gb108) := ⟨h8_⟩
            have n9_ : Aside0 (gb109 ≠ gb122) := ⟨h9_⟩
            have n10_ : Aside0 (gb122 ≠ gb109) := ⟨h10_⟩
            have n11_ : Aside0 (gb110 ≠ gb122) := ⟨h11_⟩
            have n12_ : Aside0 (gb122 ≠ gb110) := ⟨h12_⟩
            have n13_ : Aside0 (Below w.heap.size w w38) := ⟨h13_⟩
            clear BK108
            clear BK109
            clear BK110
            clear HB
            clear h0_ h1_ h2_ h3_ h4_ h5_ h6_ h7_ h8_ h9_ h10_ h11_ h12_ h13_
            have HO118 := n0_
            have BK108 := n1_
            have BK109 := n2_
            have BK110 := n3_
            have BK122 := n4_
            have GW122 := n5_
            have GE122 := n6_
            have NB108_122 := n7_
            have NB122_108 := n8_
            have NB109_122 := n9_
            have NB122_109 := n10_
            have NB110_122 := n11_
            have NB122_110 := n12_
            have HB := n13_
            clear n0_ n1_ n2_ n3_ n4_ n5_ n6_ n7_ n8_ n9_ n10_ n11_ n12_ n13_
            have hHeld : w38.cell? ⟨gb108, 0, none⟩ = some (.slice A0_0 l0_0.length c0_0) ∧ w38.cell? ⟨gb110, 0, none⟩ = some (.int .i64 a1) ∧ w38.cell? ⟨gb110, 1, none⟩ = some (.int .i64 a2) ∧ w38.cell? ⟨gb110, 2, none⟩ = some (.int .i64 a3) ∧ w38.cell? ⟨gb110, 3, none⟩ = some (.bool false) := hS_
            refine norm_ (a' := ?_) ?_ ?_
            rotate_left
            ·simp only [putAll, Act.put, List.setIfInBounds_toArray, List.set_cons_zero, List.set_cons_succ]
             rfl
            refine one_ (i := 2) (N := some 27) #[true, true, true, true, true, false, false, true, false] rfl rfl (one_of HT_.out (by kernel_rfl)) (by decide) (fun K hK => ?_)
            refine goes_ Try.func31 (by kernel_rfl) rfl #[.slice A0_0 l0_0.length c0_0] (by rfl) rfl rfl ma_ ?_
            with_reducible refine (oplist_Entry_31.calls _ _ l0_0 t113 _ ?side1 ?side2 A30.out).mono ?_
            (case side1 => repeat (first | exact (Kd.C_below HR0_0.out HB.out) | (with_reducible refine Kd.C_alloc ?_ _) | (with_reducible refine Kd.C_drewN ?_ _) | (with_reducible refine Kd.C_drew ?_)))
            (case side2 => exact HC0_0.out)
            rintro e w39 ⟨v114, rfl, ho0, hb⟩
            refine ⟨_, rfl, ?_⟩
            have n0_ := am_ (Kd.R_elder' (ro_ HO118.out) (Kd.R_base ho0) hb)
            have n1_ := am_ (Kd.R_lower (Kd.R_newB (Kd.R_new' ho0 (Kd.R_lt (ro_ HO118.out))) (g := gb110) (o := .cells #[.int .i64 a1, .int .i64 a2, .int .i64 a3, .bool false] 33 (0, 0)) (bk_ BK110.out)) (below_size (be_ HB.out)))
            have n2_ := am_ (bb_ BK108.out hb)
            have n3_ := am_ (bb_ BK109.out hb)
            have n4_ := am_ (bb_ BK110.out hb)
            have n5_ := am_ (bb_ BK122.out hb)
            have n6_ := am_ (below_step (be_ HB.out) hb)
            clear HO118
            clear BK108
            clear BK109
            clear BK110
            clear BK122
            clear HB
            have HO118 := n0_
            have HO115 := n1_
            have BK108 := n2_
            have BK109 := n3_
            have BK110 := n4_
            have BK122 := n5_
            have HB := n6_
            clear n0_ n1_ n2_ n3_ n4_ n5_ n6_
            (try clear hb)
            (try clear hb2)
            (try clear hk)
            (try clear hi)
            (try clear ho0)
            refine hK.out _ _ ⟨(blk_cell BK108.out 0).trans rfl, (blk_cell BK110.out 0).trans rfl, (blk_cell BK110.out 1).trans rfl, (blk_cell BK110.out 2).trans rfl, (blk_cell BK110.out 3).trans rfl⟩ (fun hHeld => ?_)
            clear hK K
            refine norm_ (a' := ?_) ?_ ?_
            rotate_left
            ·show Act.put _ (some 27) _ = _
             simp only [Act.put, List.setIfInBounds_toArray, List.set_cons_zero, List.set_cons_succ, i64_w, i32_w]
             rfl
            exact norm_ pu_ (hJ2_4_7 (v114, v117, gb122) _ ⟨hHeld, (by (with_reducible repeat (first | apply Kd.R_alloc | apply Kd.R_drewN | apply Kd.R_drew)); exact Kd.R_mono HO115.out (fun _ hk => ⟨hk.1.2, hk.2⟩)), (by (with_reducible repeat (first | apply Kd.R_alloc | apply Kd.R_drewN | apply Kd.R_drew)); exact Kd.R_mono HO118.out (fun _ hk => ⟨hk.2, hk.1⟩)), (bk_ BK108.out), (bk_ BK109.out), (bk_ BK110.out), (bk_ BK122.out), GW122.out, GE122.out, NB108_122.out, NB122_108.out, NB109_122.out, NB122_109.out, NB110_122.out, NB122_110.out, (be_ HB.out)⟩)
          ·skip
           rintro ⟨v114, gb122⟩ w37 ⟨hS_, h0_, h1_, h2_, h3_, h4_, h5_, h6_, h7_, h8_, h9_, h10_, h11_, h12_, h13_⟩
           have n0_ : Aside0 (Kd.R k33 33 w37 w.heap.size (fun k_ => k_ ≠ gb110) v114 t113) := ⟨h0_⟩
           have n1_ : Aside0 (w37.heap[gb108]? = some (.cells #[.slice A0_0 l0_0.length c0_0] 26 (0, 0))) := ⟨h1_⟩
           have n2_ : Aside0 (w37.heap[gb109]? = some (.cells #[.slice none 0 0] 26 (0, 0))) := ⟨h2_⟩
           have n3_ : Aside0 (w37.heap[gb110]? = some (.cells #[.int .i64 a1, .int .i64 a2, .int .i64 a3, .bool false] 33 (0, 0))) := ⟨h3_⟩
           have n4_ : Aside0 (w37.heap[gb122]? = some (.cells #[.slice none 0 0] 26 (0, 0))) := ⟨h4_⟩
           have n5_ : Aside0 (w.heap.size ≤ gb122) := ⟨h5_⟩
           have n6_ : Aside0 (w.heap.size ≤ gb122) := ⟨h6_⟩
           have n7_ : Aside0 (gb108 ≠ gb122) := ⟨h7_⟩
           have n8_ : Aside0 (gb122 ≠ gb108) := ⟨h8_⟩
           have n9_ : Aside0 (gb109 ≠ gb122) := ⟨h9_⟩
           have n10_ : Aside0 (gb122 ≠ gb109) := ⟨h10_⟩
           have n11_ : Aside0 (gb110 ≠ gb122) := ⟨h11_⟩
           have n12_ : Aside0 (gb122 ≠ gb110) := ⟨h12_⟩
           have n13_ : Aside0 (Below w.heap.size w w37) := ⟨h13_⟩
           clear BK108
           clear BK109
           clear BK110
           clear HB
           clear h0_ h1_ h2_ h3_ h4_ h5_ h6_ h7_ h8_ h9_ h10_ h11_ h12_ h13_
           have HO115 := n0_
           have BK108 := n1_
           have BK109 := n2_
           have BK110 := n3_
           have BK122 := n4_
           have GW122 := n5_
           have GE122 := n6_
           have NB108_122 := n7_
           have NB122_108 := n8_
           have NB109_122 := n9_
           have NB122_109 := n10_
           have NB110_122 := n11_
           have NB122_110 := n12_
           have HB := n13_
           clear n0_ n1_ n2_ n3_ n4_ n5_ n6_ n7_ n8_ n9_ n10_ n11_ n12_ n13_
           have hHeld : w37.cell? ⟨gb108, 0, none⟩ = some (.slice A0_0 l0_0.length c0_0) ∧ w37.cell? ⟨gb110, 0, none⟩ = some (.int .i64 a1) ∧ w37.cell? ⟨gb110, 1, none⟩ = some (.int .i64 a2) ∧ w37.cell? ⟨gb110, 2, none⟩ = some (.int .i64 a3) ∧ w37.cell? ⟨gb110, 3, none⟩ = some (.bool false) := hS_
           refine norm_ (a' := ?_) ?_ ?_
           rotate_left
           ·simp only [putAll, Act.put, List.setIfInBounds_toArray, List.set_cons_zero, List.set_cons_succ]
            rfl
           refine one_ (i := 4) (N := some 29) #[true, true, true, true, true, false, false, true, false] rfl rfl (one_of HT_.out (by kernel_rfl)) (by decide) (fun K hK => ?_)
           refine Kd.R_lit_step k33 _ 33 ?hg (N := 29) ?hd (xs := ([(⟨a1, a2, a3, false⟩ : S33)] : List (S33))) (inner := [.int .i64 a1, .int .i64 a2, .int .i64 a3, .bool false]) (ok := fun _ => True) (okp := fun _ => True) ?hr ?hp (fun _ hk => hk) trivial (Below.refl _ _) (Nat.le_refl _) (by simp) ?_; (case hd => rfl); (case hg => rfl); (case hr => first | (go_simp; done) | (go_simp; rfl)); (case hp => exact (Reps.c4 (show Kd.M k33 _ _ _ (⟨a1, a2, a3, false⟩ : S33) [.int .i64 a1, .int .i64 a2, .int .i64 a3, .bool false] from (k33_mkM _ _ _ (⟨a1, a2, a3, false⟩ : S33) )) (Reps.none _ _)))
           intro v117 w38 ho39 hb hg_ hnew_
           clear hg_ hnew_
           (first | rw [← Ny116.out] at ho39 | (simp only [Int.reduceToNat] at ho39; rw [← Ny116.out] at ho39))
           have n0_ := am_ (Kd.R_elder' (ro_ HO115.out) (Kd.R_base ho39) hb)
           have n1_ := am_ (Kd.R_lower (Kd.R_newB (Kd.R_new' ho39 (Kd.R_lt (ro_ HO115.out))) (g := gb110) (o := .cells #[.int .i64 a1, .int .i64 a2, .int .i64 a3, .bool false] 33 (0, 0)) (bk_ BK110.out)) (below_size (be_ HB.out)))
           have n2_ := am_ (bb_ BK108.out hb)
           have n3_ := am_ (bb_ BK109.out hb)
           have n4_ := am_ (bb_ BK110.out hb)
           have n5_ := am_ (bb_ BK122.out hb)
           have n6_ := am_ (below_step (be_ HB.out) hb)
           clear HO115
           clear BK108
           clear BK109
           clear BK110
           clear BK122
           clear HB
           have HO115 := n0_
           have HO118 := n1_
           have BK108 := n2_
           have BK109 := n3_
           have BK110 := n4_
           have BK122 := n5_
           have HB := n6_
           clear n0_ n1_ n2_ n3_ n4_ n5_ n6_
           clear hb ho39
           refine hK.out _ _ ⟨(blk_cell BK108.out 0).trans rfl, (blk_cell BK110.out 0).trans rfl, (blk_cell BK110.out 1).trans rfl, (blk_cell BK110.out 2).trans rfl, (blk_cell BK110.out 3).trans rfl⟩ (fun hHeld => ?_)
           clear hK K
           refine norm_ (a' := ?_) ?_ ?_
           rotate_left
           ·show Act.put _ (some 29) _ = _
            simp only [Act.put, List.setIfInBounds_toArray, List.set_cons_zero, List.set_cons_succ, i64_w, i32_w]
            rfl
           exact norm_ pu_ (hJ2_4_7 (v114, v117, gb122) _ ⟨hHeld, (by (with_reducible repeat (first | apply Kd.R_alloc | apply Kd.R_drewN | apply Kd.R_drew)); exact Kd.R_mono HO115.out (fun _ hk => ⟨hk.2, hk.1⟩)), (by (with_reducible repeat (first | apply Kd.R_alloc | apply Kd.R_drewN | apply Kd.R_drew)); exact Kd.R_mono HO118.out (fun _ hk => ⟨hk.1.2, hk.2⟩)), (bk_ BK108.out), (bk_ BK109.out), (bk_ BK110.out), (bk_ BK122.out), GW122.out, GE122.out, NB108_122.out, NB122_108.out, NB109_122.out, NB122_109.out, NB110_122.out, NB122_110.out, (be_ HB.out)⟩)
         ·skip
          rintro ⟨v114, v117⟩ w38 ⟨hS_, h0_, h1_, h2_, h3_, h4_, h5_⟩
          have n0_ : Aside0 (Kd.R k33 33 w38 w.heap.size (fun k_ => some k_ ≠ (v117 : Value).ownBlock ∧ k_ ≠ gb110) v114 t113) := ⟨h0_⟩
          have n1_ : Aside0 (Kd.R k33 33 w38 w.heap.size (fun k_ => some k_ ≠ (v114 : Value).ownBlock ∧ k_ ≠ gb110) v117 y116) := ⟨h1_⟩
          have n2_ : Aside0 (w38.heap[gb108]? = some (.cells #[.slice A0_0 l0_0.length c0_0] 26 (0, 0))) := ⟨h2_⟩
          have n3_ : Aside0 (w38.heap[gb109]? = some (.cells #[.slice none 0 0] 26 (0, 0))) := ⟨h3_⟩
          have n4_ : Aside0 (w38.heap[gb110]? = some (.cells #[.int .i64 a1, .int .i64 a2, .int .i64 a3, .bool false] 33 (0, 0))) := ⟨h4_⟩
          have n5_ : Aside0 (Below w.heap.size w w38) := ⟨h5_⟩
          clear BK108
          clear BK109
          clear BK110
          clear HB
          clear h0_ h1_ h2_ h3_ h4_ h5_
          have HO115 := n0_
          have HO118 := n1_
          have BK108 := n2_
          have BK109 := n3_
          have BK110 := n4_
          have HB := n5_
          clear n0_ n1_ n2_ n3_ n4_ n5_
          have hHeld : w38.cell? ⟨gb108, 0, none⟩ = some (.slice A0_0 l0_0.length c0_0) ∧ w38.cell? ⟨gb110, 0, none⟩ = some (.int .i64 a1) ∧ w38.cell? ⟨gb110, 1, none⟩ = some (.int .i64 a2) ∧ w38.cell? ⟨gb110, 2, none⟩ = some (.int .i64 a3) ∧ w38.cell? ⟨gb110, 3, none⟩ = some (.bool false) := hS_
          obtain ⟨Ao40, co40, eo40⟩ := Kd.R_slice HO118.out
          (first | subst eo40 | (injection eo40 with f1_ f2_ f3_; have f4_ := f1_.symm; have f5_ := f3_.symm; clear f1_ f2_ f3_; subst f4_; subst f5_))
          refine norm_ (a' := ?_) ?_ ?_
          rotate_left
          ·simp only [putAll, Act.put, List.setIfInBounds_toArray, List.set_cons_zero, List.set_cons_succ]
           rfl
          refine two_ (i := 5) (j := 7) (Ni := some 30) (Nj := some 11) #[true, true, true, true, true, true, false, false, false] #[true, true, true, true, true, false, false, true, false] rfl rfl rfl rfl (two_of HT_.out (by kernel_rfl)) (by decide) (by decide) (fun K hK => ?_) (fun K hK => ?_)
          ·skip
           refine Kd.R_append_rows_step k33 (w0 := w) w.heap.size (by rfl) (.tmp 27) (.tmp 29) 24 33 (.agg #[(.int .i64 0), (.int .i64 0), (.int .i64 0), (.bool false)]) 32 rfl Try.underlying24 info33 rfl (by decide) (by omega) v114 t113 y116 _ _ _ (fun k_ => some k_ ≠ (.slice Ao40 y116.length co40 : Value).ownBlock ∧ k_ ≠ gb110) (fun _ => False) rfl rfl ?aO ?aR (fun _ _ h => h) (fun _ h => h.elim) ?aF ?aB ?aS ?aL ?_
           (case aR => repeat (first | exact (Kd.R_reads' HO118.out).2.2 | (with_reducible refine Kd.C_alloc ?_ _) | (with_reducible refine Kd.C_drewN ?_ _) | (with_reducible refine Kd.C_drew ?_)))
           (case aB => exact (be_ HB.out))
           (case aF => exact (fun k_ hk => ⟨Kd.fresh' (Kd.R_lt (ro_ HO118.out)) k_ hk, Kd.freshB (g := gb110) (o := .cells #[.int .i64 a1, .int .i64 a2, .int .i64 a3, .bool false] 33 (0, 0)) (bk_ BK110.out) k_ hk⟩))
           (case aO => exact (ro_ HO115.out))
           (case aS => exact (below_size (be_ HB.out)))
           (case aL => have := LMc31.out; omega)
           intro v120 w39 ho hb hg hat
           rw [← Ny119.out] at ho
           have n0_ := am_ (blk_grown (g := gb108) (o := .cells #[.slice A0_0 l0_0.length c0_0] 26 (0, 0)) (bk_ BK108.out) hg (Kd.R_ne HO115.out BK108.out (by decide)))
           have n1_ := am_ (blk_grown (g := gb109) (o := .cells #[.slice none 0 0] 26 (0, 0)) (bk_ BK109.out) hg (Kd.R_ne HO115.out BK109.out (by decide)))
           have n2_ := am_ (blk_grown (g := gb110) (o := .cells #[.int .i64 a1, .int .i64 a2, .int .i64 a3, .bool false] 33 (0, 0)) (bk_ BK110.out) hg (Kd.R_away HO115.out (fun _ hk => hk.2)))
           have n3_ := am_ (Kd.R_after (ok := (fun k_ => k_ ≠ gb110)) (by (with_reducible repeat (first | apply Kd.R_alloc | apply Kd.R_drewN | apply Kd.R_drew)); exact Kd.R_mono HO118.out (fun _ hk => ⟨hk.2, hk.1⟩)) hg hat)
           have n4_ := am_ (hb)
           have n5_ := am_ (ho)
           clear BK108
           clear BK109
           clear BK110
           clear HO118
           clear HB
           clear HO115
           have BK108 := n0_
           have BK109 := n1_
           have BK110 := n2_
           have HO118 := n3_
           have HB := n4_
           have HO121 := n5_
           clear n0_ n1_ n2_ n3_ n4_ n5_
           clear ho hb hg hat
           obtain ⟨Ao41, co41, eo41⟩ := Kd.R_slice HO121.out
           (first | subst eo41 | (injection eo41 with f1_ f2_ f3_; have f4_ := f1_.symm; have f5_ := f3_.symm; clear f1_ f2_ f3_; subst f4_; subst f5_))
           refine hK.out _ _ ⟨(blk_cell BK108.out 0).trans rfl, (blk_cell BK110.out 0).trans rfl, (blk_cell BK110.out 1).trans rfl, (blk_cell BK110.out 2).trans rfl, (blk_cell BK110.out 3).trans rfl⟩ (fun hHeld => ?_)
           clear hK K
           refine norm_ (a' := ?_) ?_ ?_
           rotate_left
           ·show Act.put _ (some 30) _ = _
            simp only [Act.put, List.setIfInBounds_toArray, List.set_cons_zero, List.set_cons_succ, i64_w, i32_w]
            rfl
           refine pure_ (i := 6) (N := some 31) (v := ?_) (a' := ?_) #[true, true, true, true, true, true, true, false, false] rfl rfl (any_of HT_.out (by kernel_rfl)) (fun _ _ _ h => h) (Or.inl ⟨by rfl, ?_⟩) ?_ ?_
           rotate_left
           ·intro w'
            go_simp
            with_reducible rfl
           rotate_left
           ·simp only [Act.put, List.setIfInBounds_toArray, List.set_cons_zero, List.set_cons_succ, i64_w, i32_w]
            rfl
           exact norm_ pu_ (hJ2_4_5 (v114, .slice Ao40 y116.length co40, .slice Ao41 y119.length co41) _ ⟨hHeld, (by (with_reducible repeat (first | apply Kd.R_alloc | apply Kd.R_drewN | apply Kd.R_drew)); exact Kd.R_mono HO118.out (fun _ hk => ⟨hk.2, hk.1⟩)), (ro_ HO121.out), (bk_ BK108.out), (bk_ BK109.out), (bk_ BK110.out), (be_ HB.out)⟩)
          ·skip
           refine box_step ?hg (N := 11) ?hd (cs := #[.slice none 0 0]) (t := 26) ?hr ?_; (case hd => rfl); (case hg => rfl); (case hr => first | (go_simp; done) | (go_simp; rfl))
           intro gb122 hg w39 hbox hb
           have n0_ := am_ (Kd.R_below (ro_ HO115.out) hb)
           have n1_ := am_ (Kd.R_below (ro_ HO118.out) hb)
           have n2_ := am_ (bb_ BK108.out hb)
           have n3_ := am_ (bb_ BK109.out hb)
           have n4_ := am_ (bb_ BK110.out hb)
           have n5_ := am_ (below_step (be_ HB.out) hb)
           have n6_ := am_ (hbox)
           have n7_ := am_ ((by rw [hg]; exact (below_size (be_ HB.out)) : w.heap.size ≤ gb122))
           have n8_ := am_ ((by rw [hg]; exact (below_size (be_ HB.out)) : w.heap.size ≤ gb122))
           have n9_ := am_ ((by rw [hg]; exact Nat.ne_of_lt (bl_ BK108.out) : gb108 ≠ gb122))
           have n10_ := am_ ((by rw [hg]; exact Nat.ne_of_gt (bl_ BK108.out) : gb122 ≠ gb108))
           have n11_ := am_ ((by rw [hg]; exact Nat.ne_of_lt (bl_ BK109.out) : gb109 ≠ gb122))
           have n12_ := am_ ((by rw [hg]; exact Nat.ne_of_gt (bl_ BK109.out) : gb122 ≠ gb109))
           have n13_ := am_ ((by rw [hg]; exact Nat.ne_of_lt (bl_ BK110.out) : gb110 ≠ gb122))
           have n14_ := am_ ((by rw [hg]; exact Nat.ne_of_gt (bl_ BK110.out) : gb122 ≠ gb110))
           clear HO115
           clear HO118
           clear BK108
           clear BK109
           clear BK110
           clear HB
           have HO115 := n0_
           have HO118 := n1_
           have BK108 := n2_
           have BK109 := n3_
           have BK110 := n4_
           have HB := n5_
           have BK122 := n6_
           have GW122 := n7_
           have GE122 := n8_
           have NB108_122 := n9_
           have NB122_108 := n10_
           have NB109_122 := n11_
           have NB122_109 := n12_
           have NB110_122 := n13_
           have NB122_110 := n14_
           clear n0_ n1_ n2_ n3_ n4_ n5_ n6_ n7_ n8_ n9_ n10_ n11_ n12_ n13_ n14_
           clear hb hbox hg
           refine hK.out _ _ ⟨(blk_cell BK108.out 0).trans rfl, (blk_cell BK110.out 0).trans rfl, (blk_cell BK110.out 1).trans rfl, (blk_cell BK110.out 2).trans rfl, (blk_cell BK110.out 3).trans rfl⟩ (fun hHeld => ?_)
           clear hK K
           refine norm_ (a' := ?_) ?_ ?_
           rotate_left
           ·show Act.put _ (some 11) _ = _
            simp only [Act.put, List.setIfInBounds_toArray, List.set_cons_zero, List.set_cons_succ, i64_w, i32_w]
            rfl
           exact norm_ pu_ (hJ2_4_7 (v114, .slice Ao40 y116.length co40, gb122) _ ⟨hHeld, (ro_ HO115.out), (ro_ HO118.out), (bk_ BK108.out), (bk_ BK109.out), (bk_ BK110.out), (bk_ BK122.out), GW122.out, GE122.out, NB108_122.out, NB122_108.out, NB109_122.out, NB122_109.out, NB110_122.out, NB122_110.out, (be_ HB.out)⟩)
        ·skip
         rintro ⟨v114, v117, gb122⟩ w39 ⟨hS_, h0_, h1_, h2_, h3_, h4_, h5_, h6_, h7_, h8_, h9_, h10_, h11_, h12_, h13_, h14_⟩
         have n0_ : Aside0 (Kd.R k33 33 w39 w.heap.size (fun k_ => some k_ ≠ (v117 : Value).ownBlock ∧ k_ ≠ gb110) v114 t113) := ⟨h0_⟩
         have n1_ : Aside0 (Kd.R k33 33 w39 w.heap.size (fun k_ => some k_ ≠ (v114 : Value).ownBlock ∧ k_ ≠ gb110) v117 y116) := ⟨h1_⟩
         have n2_ : Aside0 (w39.heap[gb108]? = some (.cells #[.slice A0_0 l0_0.length c0_0] 26 (0, 0))) := ⟨h2_⟩
         have n3_ : Aside0 (w39.heap[gb109]? = some (.cells #[.slice none 0 0] 26 (0, 0))) := ⟨h3_⟩
         have n4_ : Aside0 (w39.heap[gb110]? = some (.cells #[.int .i64 a1, .int .i64 a2, .int .i64 a3, .bool false] 33 (0, 0))) := ⟨h4_⟩
         have n5_ : Aside0 (w39.heap[gb122]? = some (.cells #[.slice none 0 0] 26 (0, 0))) := ⟨h5_⟩
         have n6_ : Aside0 (w.heap.size ≤ gb122) := ⟨h6_⟩
         have n7_ : Aside0 (w.heap.size ≤ gb122) := ⟨h7_⟩
         have n8_ : Aside0 (gb108 ≠ gb122) := ⟨h8_⟩
         have n9_ : Aside0 (gb122 ≠ gb108) := ⟨h9_⟩
         have n10_ : Aside0 (gb109 ≠ gb122) := ⟨h10_⟩
         have n11_ : Aside0 (gb122 ≠ gb109) := ⟨h11_⟩
         have n12_ : Aside0 (gb110 ≠ gb122) := ⟨h12_⟩
         have n13_ : Aside0 (gb122 ≠ gb110) := ⟨h13_⟩
         have n14_ : Aside0 (Below w.heap.size w w39) := ⟨h14_⟩
         clear BK108
         clear BK109
         clear BK110
         clear HB
         clear h0_ h1_ h2_ h3_ h4_ h5_ h6_ h7_ h8_ h9_ h10_ h11_ h12_ h13_ h14_
         have HO115 := n0_
         have HO118 := n1_
         have BK108 := n2_
         have BK109 := n3_
         have BK110 := n4_
         have BK122 := n5_
         have GW122 := n6_
         have GE122 := n7_
         have NB108_122 := n8_
         have NB122_108 := n9_
         have NB109_122 := n10_
         have NB122_109 := n11_
         have NB110_122 := n12_
         have NB122_110 := n13_
         have HB := n14_
         clear n0_ n1_ n2_ n3_ n4_ n5_ n6_ n7_ n8_ n9_ n10_ n11_ n12_ n13_ n14_
         have hHeld : w39.cell? ⟨gb108, 0, none⟩ = some (.slice A0_0 l0_0.length c0_0) ∧ w39.cell? ⟨gb110, 0, none⟩ = some (.int .i64 a1) ∧ w39.cell? ⟨gb110, 1, none⟩ = some (.int .i64 a2) ∧ w39.cell? ⟨gb110, 2, none⟩ = some (.int .i64 a3) ∧ w39.cell? ⟨gb110, 3, none⟩ = some (.bool false) := hS_
         obtain ⟨Ao41, co41, eo41⟩ := Kd.R_slice HO118.out
         (first | subst eo41 | (injection eo41 with f1_ f2_ f3_; have f4_ := f1_.symm; have f5_ := f3_.symm; clear f1_ f2_ f3_; subst f4_; subst f5_))
         refine norm_ (a' := ?_) ?_ ?_
         rotate_left
         ·simp only [putAll, Act.put, List.setIfInBounds_toArray, List.set_cons_zero, List.set_cons_succ]
          rfl
         refine one_ (i := 5) (N := some 30) #[true, true, true, true, true, true, false, true, false] rfl rfl (one_of HT_.out (by kernel_rfl)) (by decide) (fun K hK => ?_)
         refine Kd.R_append_rows_step k33 (w0 := w) w.heap.size (by rfl) (.tmp 27) (.tmp 29) 24 33 (.agg #[(.int .i64 0), (.int .i64 0), (.int .i64 0), (.bool false)]) 32 rfl Try.underlying24 info33 rfl (by decide) (by omega) v114 t113 y116 _ _ _ (fun k_ => some k_ ≠ (.slice Ao41 y116.length co41 : Value).ownBlock ∧ k_ ≠ gb110) (fun _ => False) rfl rfl ?aO ?aR (fun _ _ h => h) (fun _ h => h.elim) ?aF ?aB ?aS ?aL ?_
         (case aR => repeat (first | exact (Kd.R_reads' HO118.out).2.2 | (with_reducible refine Kd.C_alloc ?_ _) | (with_reducible refine Kd.C_drewN ?_ _) | (with_reducible refine Kd.C_drew ?_)))
         (case aB => exact (be_ HB.out))
         (case aF => exact (fun k_ hk => ⟨Kd.fresh' (Kd.R_lt (ro_ HO118.out)) k_ hk, Kd.freshB (g := gb110) (o := .cells #[.int .i64 a1, .int .i64 a2, .int .i64 a3, .bool false] 33 (0, 0)) (bk_ BK110.out) k_ hk⟩))
         (case aO => exact (ro_ HO115.out))
         (case aS => exact (below_size (be_ HB.out)))
         (case aL => have := LMc31.out; omega)
         intro v120 w40 ho hb hg hat
         rw [← Ny119.out] at ho
         have n0_ := am_ (blk_grown (g := gb108) (o := .cells #[.slice A0_0 l0_0.length c0_0] 26 (0, 0)) (bk_ BK108.out) hg (Kd.R_ne HO115.out BK108.out (by decide)))
         have n1_ := am_ (blk_grown (g := gb109) (o := .cells #[.slice none 0 0] 26 (0, 0)) (bk_ BK109.out) hg (Kd.R_ne HO115.out BK109.out (by decide)))
         have n2_ := am_ (blk_grown (g := gb110) (o := .cells #[.int .i64 a1, .int .i64 a2, .int .i64 a3, .bool false] 33 (0, 0)) (bk_ BK110.out) hg (Kd.R_away HO115.out (fun _ hk => hk.2)))
         have n3_ := am_ (Kd.R_after (ok := (fun k_ => k_ ≠ gb110)) (by (with_reducible repeat (first | apply Kd.R_alloc | apply Kd.R_drewN | apply Kd.R_drew)); exact Kd.R_mono HO118.out (fun _ hk => ⟨hk.2, hk.1⟩)) hg hat)
         have n4_ := am_ (blk_grown (g := gb122) (o := .cells #[.slice none 0 0] 26 (0, 0)) (bk_ BK122.out) hg (Kd.R_ne HO115.out BK122.out (by decide)))
         have n5_ := am_ (hb)
         have n6_ := am_ (ho)
         clear BK108
         clear BK109
         clear BK110
         clear HO118
         clear BK122
         clear HB
         clear HO115
         have BK108 := n0_
         have BK109 := n1_
         have BK110 := n2_
         have HO118 := n3_
         have BK122 := n4_
         have HB := n5_
         have HO121 := n6_
         clear n0_ n1_ n2_ n3_ n4_ n5_ n6_
         clear ho hb hg hat
         obtain ⟨Ao42, co42, eo42⟩ := Kd.R_slice HO121.out
         (first | subst eo42 | (injection eo42 with f1_ f2_ f3_; have f4_ := f1_.symm; have f5_ := f3_.symm; clear f1_ f2_ f3_; subst f4_; subst f5_))
         refine hK.out _ _ ⟨(blk_cell BK108.out 0).trans rfl, (blk_cell BK110.out 0).trans rfl, (blk_cell BK110.out 1).trans rfl, (blk_cell BK110.out 2).trans rfl, (blk_cell BK110.out 3).trans rfl⟩ (fun hHeld => ?_)
         clear hK K
         refine norm_ (a' := ?_) ?_ ?_
         rotate_left
         ·show Act.put _ (some 30) _ = _
          simp only [Act.put, List.setIfInBounds_toArray, List.set_cons_zero, List.set_cons_succ, i64_w, i32_w]
          rfl
         refine pure_ (i := 6) (N := some 31) (v := ?_) (a' := ?_) #[true, true, true, true, true, true, true, true, false] rfl rfl (any_of HT_.out (by kernel_rfl)) (fun _ _ _ h => h) (Or.inl ⟨by rfl, ?_⟩) ?_ ?_
         rotate_left
         ·intro w'
          go_simp
          with_reducible rfl
         rotate_left
         ·simp only [Act.put, List.setIfInBounds_toArray, List.set_cons_zero, List.set_cons_succ, i64_w, i32_w]
          rfl
         exact norm_ pu_ (hJ2_4_5_7 (v114, .slice Ao41 y116.length co41, .slice Ao42 y119.length co42, gb122) _ ⟨hHeld, (by (with_reducible repeat (first | apply Kd.R_alloc | apply Kd.R_drewN | apply Kd.R_drew)); exact Kd.R_mono HO118.out (fun _ hk => ⟨hk.2, hk.1⟩)), (ro_ HO121.out), (bk_ BK108.out), (bk_ BK109.out), (bk_ BK110.out), (bk_ BK122.out), GW122.out, GE122.out, NB108_122.out, NB122_108.out, NB109_122.out, NB122_109.out, NB110_122.out, NB122_110.out, (be_ HB.out)⟩)
       ·skip
        rintro ⟨v114, v117, v120⟩ w41 ⟨hS_, h0_, h1_, h2_, h3_, h4_, h5_⟩
        have n0_ : Aside0 (Kd.R k33 33 w41 w.heap.size (fun k_ => some k_ ≠ (v120 : Value).ownBlock ∧ k_ ≠ gb110) v117 y116) := ⟨h0_⟩
        have n1_ : Aside0 (Kd.R k33 33 w41 w.heap.size (fun k_ => some k_ ≠ (v117 : Value).ownBlock ∧ k_ ≠ gb110) v120 y119) := ⟨h1_⟩
        have n2_ : Aside0 (w41.heap[gb108]? = some (.cells #[.slice A0_0 l0_0.length c0_0] 26 (0, 0))) := ⟨h2_⟩
        have n3_ : Aside0 (w41.heap[gb109]? = some (.cells #[.slice none 0 0] 26 (0, 0))) := ⟨h3_⟩
        have n4_ : Aside0 (w41.heap[gb110]? = some (.cells #[.int .i64 a1, .int .i64 a2, .int .i64 a3, .bool false] 33 (0, 0))) := ⟨h4_⟩
        have n5_ : Aside0 (Below w.heap.size w w41) := ⟨h5_⟩
        clear BK108
        clear BK109
        clear BK110
        clear HB
        clear h0_ h1_ h2_ h3_ h4_ h5_
        have HO118 := n0_
        have HO121 := n1_
        have BK108 := n2_
        have BK109 := n3_
        have BK110 := n4_
        have HB := n5_
        clear n0_ n1_ n2_ n3_ n4_ n5_
        have hHeld : w41.cell? ⟨gb108, 0, none⟩ = some (.slice A0_0 l0_0.length c0_0) ∧ w41.cell? ⟨gb110, 0, none⟩ = some (.int .i64 a1) ∧ w41.cell? ⟨gb110, 1, none⟩ = some (.int .i64 a2) ∧ w41.cell? ⟨gb110, 2, none⟩ = some (.int .i64 a3) ∧ w41.cell? ⟨gb110, 3, none⟩ = some (.bool false) := hS_
        obtain ⟨Ao42, co42, eo42⟩ := Kd.R_slice HO121.out
        (first | subst eo42 | (injection eo42 with f1_ f2_ f3_; have f4_ := f1_.symm; have f5_ := f3_.symm; clear f1_ f2_ f3_; subst f4_; subst f5_))
        refine norm_ (a' := ?_) ?_ ?_
        rotate_left
        ·simp only [putAll, Act.put, List.setIfInBounds_toArray, List.set_cons_zero, List.set_cons_succ]
         rfl
        refine one_ (i := 7) (N := some 11) #[true, true, true, true, true, true, true, true, false] rfl rfl (one_of HT_.out (by kernel_rfl)) (by decide) (fun K hK => ?_)
        refine box_step ?hg (N := 11) ?hd (cs := #[.slice none 0 0]) (t := 26) ?hr ?_; (case hd => rfl); (case hg => rfl); (case hr => first | (go_simp; done) | (go_simp; rfl))
        intro gb122 hg w43 hbox hb
        have n0_ := am_ (Kd.R_below (ro_ HO118.out) hb)
        have n1_ := am_ (Kd.R_below (ro_ HO121.out) hb)
        have n2_ := am_ (bb_ BK108.out hb)
        have n3_ := am_ (bb_ BK109.out hb)
        have n4_ := am_ (bb_ BK110.out hb)
        have n5_ := am_ (below_step (be_ HB.out) hb)
        have n6_ := am_ (hbox)
        have n7_ := am_ ((by rw [hg]; exact (below_size (be_ HB.out)) : w.heap.size ≤ gb122))
        have n8_ := am_ ((by rw [hg]; exact (below_size (be_ HB.out)) : w.heap.size ≤ gb122))
        have n9_ := am_ ((by rw [hg]; exact Nat.ne_of_lt (bl_ BK108.out) : gb108 ≠ gb122))
        have n10_ := am_ ((by rw [hg]; exact Nat.ne_of_gt (bl_ BK108.out) : gb122 ≠ gb108))
        have n11_ := am_ ((by rw [hg]; exact Nat.ne_of_lt (bl_ BK109.out) : gb109 ≠ gb122))
        have n12_ := am_ ((by rw [hg]; exact Nat.ne_of_gt (bl_ BK109.out) : gb122 ≠ gb109))
        have n13_ := am_ ((by rw [hg]; exact Nat.ne_of_lt (bl_ BK110.out) : gb110 ≠ gb122))
        have n14_ := am_ ((by rw [hg]; exact Nat.ne_of_gt (bl_ BK110.out) : gb122 ≠ gb110))
        clear HO118
        clear HO121
        clear BK108
        clear BK109
        clear BK110
        clear HB
        have HO118 := n0_
        have HO121 := n1_
        have BK108 := n2_
        have BK109 := n3_
        have BK110 := n4_
        have HB := n5_
        have BK122 := n6_
        have GW122 := n7_
        have GE122 := n8_
        have NB108_122 := n9_
        have NB122_108 := n10_
        have NB109_122 := n11_
        have NB122_109 := n12_
        have NB110_122 := n13_
        have NB122_110 := n14_
        clear n0_ n1_ n2_ n3_ n4_ n5_ n6_ n7_ n8_ n9_ n10_ n11_ n12_ n13_ n14_
        clear hb hbox hg
        refine hK.out _ _ ⟨(blk_cell BK108.out 0).trans rfl, (blk_cell BK110.out 0).trans rfl, (blk_cell BK110.out 1).trans rfl, (blk_cell BK110.out 2).trans rfl, (blk_cell BK110.out 3).trans rfl⟩ (fun hHeld => ?_)
        clear hK K
        refine norm_ (a' := ?_) ?_ ?_
        rotate_left
        ·show Act.put _ (some 11) _ = _
         simp only [Act.put, List.setIfInBounds_toArray, List.set_cons_zero, List.set_cons_succ, i64_w, i32_w]
         rfl
        exact norm_ pu_ (hJ2_4_5_7 (v114, v117, .slice Ao42 y119.length co42, gb122) _ ⟨hHeld, (ro_ HO118.out), (ro_ HO121.out), (bk_ BK108.out), (bk_ BK109.out), (bk_ BK110.out), (bk_ BK122.out), GW122.out, GE122.out, NB108_122.out, NB122_108.out, NB109_122.out, NB122_109.out, NB110_122.out, NB122_110.out, (be_ HB.out)⟩)
      rintro ⟨v114, v117, v120, gb122⟩ w42 ⟨hS_, h0_, h1_, h2_, h3_, h4_, h5_, h6_, h7_, h8_, h9_, h10_, h11_, h12_, h13_, h14_⟩
      have n0_ : Aside0 (Kd.R k33 33 w42 w.heap.size (fun k_ => some k_ ≠ (v120 : Value).ownBlock ∧ k_ ≠ gb110) v117 y116) := ⟨h0_⟩
      have n1_ : Aside0 (Kd.R k33 33 w42 w.heap.size (fun k_ => some k_ ≠ (v117 : Value).ownBlock ∧ k_ ≠ gb110) v120 y119) := ⟨h1_⟩
      have n2_ : Aside0 (w42.heap[gb108]? = some (.cells #[.slice A0_0 l0_0.length c0_0] 26 (0, 0))) := ⟨h2_⟩
      have n3_ : Aside0 (w42.heap[gb109]? = some (.cells #[.slice none 0 0] 26 (0, 0))) := ⟨h3_⟩
      have n4_ : Aside0 (w42.heap[gb110]? = some (.cells #[.int .i64 a1, .int .i64 a2, .int .i64 a3, .bool false] 33 (0, 0))) := ⟨h4_⟩
      have n5_ : Aside0 (w42.heap[gb122]? = some (.cells #[.slice none 0 0] 26 (0, 0))) := ⟨h5_⟩
      have n6_ : Aside0 (w.heap.size ≤ gb122) := ⟨h6_⟩
      have n7_ : Aside0 (w.heap.size ≤ gb122) := ⟨h7_⟩
      have n8_ : Aside0 (gb108 ≠ gb122) := ⟨h8_⟩
      have n9_ : Aside0 (gb122 ≠ gb108) := ⟨h9_⟩
      have n10_ : Aside0 (gb109 ≠ gb122) := ⟨h10_⟩
      have n11_ : Aside0 (gb122 ≠ gb109) := ⟨h11_⟩
      have n12_ : Aside0 (gb110 ≠ gb122) := ⟨h12_⟩
      have n13_ : Aside0 (gb122 ≠ gb110) := ⟨h13_⟩
      have n14_ : Aside0 (Below w.heap.size w w42) := ⟨h14_⟩
      clear BK108
      clear BK109
      clear BK110
      clear HB
      clear h0_ h1_ h2_ h3_ h4_ h5_ h6_ h7_ h8_ h9_ h10_ h11_ h12_ h13_ h14_
      have HO118 := n0_
      have HO121 := n1_
      have BK108 := n2_
      have BK109 := n3_
      have BK110 := n4_
      have BK122 := n5_
      have GW122 := n6_
      have GE122 := n7_
      have NB108_122 := n8_
      have NB122_108 := n9_
      have NB109_122 := n10_
      have NB122_109 := n11_
      have NB110_122 := n12_
      have NB122_110 := n13_
      have HB := n14_
      clear n0_ n1_ n2_ n3_ n4_ n5_ n6_ n7_ n8_ n9_ n10_ n11_ n12_ n13_ n14_
      have hHeld : w42.cell? ⟨gb108, 0, none⟩ = some (.slice A0_0 l0_0.length c0_0) ∧ w42.cell? ⟨gb110, 0, none⟩ = some (.int .i64 a1) ∧ w42.cell? ⟨gb110, 1, none⟩ = some (.int .i64 a2) ∧ w42.cell? ⟨gb110, 2, none⟩ = some (.int .i64 a3) ∧ w42.cell? ⟨gb110, 3, none⟩ = some (.bool false) := hS_
      obtain ⟨Ao43, co43, eo43⟩ := Kd.R_slice HO121.out
      (first | subst eo43 | (injection eo43 with f1_ f2_ f3_; have f4_ := f1_.symm; have f5_ := f3_.symm; clear f1_ f2_ f3_; subst f4_; subst f5_))
      refine norm_ (a' := ?_) ?_ ?_
      rotate_left
      ·simp only [putAll, Act.put, List.setIfInBounds_toArray, List.set_cons_zero, List.set_cons_succ]
       rfl
      refine one_ (i := 8) (N := none) #[true, true, true, true, true, true, true, true, true] rfl rfl (one_of HT_.out (by kernel_rfl)) (by decide) (fun K hK => ?_)
      have hs44 : w42.cell? ⟨gb122, 0, none⟩ = some (.slice none 0 0) := (blk_cell BK122.out 0).trans rfl
      have hfs44 := blk_frozen BK122.out 0
      have hns44_0 := NB108_122.out
      have hns44_1 := NB109_122.out
      have hns44_2 := NB110_122.out
      have hms44_0 := NB122_108.out
      have hms44_1 := NB122_109.out
      have hms44_2 := NB122_110.out
      refine skip_ (w1 := ?_) (by rfl) rfl ?_ ?_
      rotate_left
      ·go_simp
       rfl
      refine hK.out _ _ ⟨((cell_far (p := ⟨gb122, _, none⟩) NB108_122.out _).trans (hHeld.1)), ((cell_far (p := ⟨gb122, _, none⟩) NB110_122.out _).trans (hHeld.2.1)), ((cell_far (p := ⟨gb122, _, none⟩) NB110_122.out _).trans (hHeld.2.2.1)), ((cell_far (p := ⟨gb122, _, none⟩) NB110_122.out _).trans (hHeld.2.2.2.1)), ((cell_far (p := ⟨gb122, _, none⟩) NB110_122.out _).trans (hHeld.2.2.2.2))⟩ (fun hHeld => ?_)
      clear hK K
      refine done_ (done_of HT_.out (by kernel_rfl)) ?_
      have hnb45 := NB122_108.out
      have hnc45 := NB108_122.out
      have hnb46 := NB122_109.out
      have hnc46 := NB109_122.out
      have hnb47 := NB122_110.out
      have hnc47 := NB110_122.out
      have hcz48_0 : w42.cell? ⟨gb122, 0, none⟩ = some (.slice none 0 0) := (blk_cell BK122.out 0).trans rfl
      have hfz48_0 := blk_frozen BK122.out 0
      try go_wp2_with (first | ((with_reducible refine gate_callee (f := 15) rfl ?_); refine goesL_ (some 33) rfl rfl Try.func15 (by kernel_rfl) rfl #[.agg #[.slice Ao43 y119.length co43]] rfl ma_ ?_; (with_reducible refine (oplist_Sane.calls _ _ y119 true _ ?side1 ?side2 A32.out).mono ?_); (case side1 => refine (Kd.R_reads' (e := 33) (base := w.heap.size) (ok := fun k_ => (some k_ ≠ (v117 : Value).ownBlock ∧ k_ ≠ gb110)) (n := y119.length) (c := co43) ?_).2.2; exact (by (with_reducible repeat (first | apply Kd.R_alloc | apply Kd.R_drewN | apply Kd.R_drew)); exact (Kd.R_mono (Kd.R_far (p := ⟨gb122, 0, none⟩) (Kd.R_types HO121.out BK122.out (by decide)) (fun _ hk => hk.2) (.slice Ao43 y119.length co43)) (fun _ h_ => h_.1)))); (case side2 => exact (Kd.R_reads' HO121.out).2.1); rintro e w49 ⟨rfl, hb⟩; refine ⟨_, rfl, ?_⟩; have n0_ := am_ (Kd.R_below (by (with_reducible repeat (first | apply Kd.R_alloc | apply Kd.R_drewN | apply Kd.R_drew)); exact (Kd.R_mono (Kd.R_far (p := ⟨gb122, 0, none⟩) (Kd.R_types HO118.out BK122.out (by decide)) (fun _ hk => hk.2) (.slice Ao43 y119.length co43)) (fun _ h_ => h_.1))) hb); have n1_ := am_ (Kd.R_below (by (with_reducible repeat (first | apply Kd.R_alloc | apply Kd.R_drewN | apply Kd.R_drew)); exact (Kd.R_mono (Kd.R_far (p := ⟨gb122, 0, none⟩) (Kd.R_types HO121.out BK122.out (by decide)) (fun _ hk => hk.2) (.slice Ao43 y119.length co43)) (fun _ h_ => h_.1))) hb); have n2_ := am_ (blk_below (g := gb108) (o := .cells #[.slice A0_0 l0_0.length c0_0] 26 (0, 0)) (by (with_reducible repeat (first | refine blk_drewN ?_ _ | refine blk_drew ?_ | refine blk_alloc ?_ _)); refine blk_far ?_ NB108_122.out _; (with_reducible repeat (first | refine blk_drewN ?_ _ | refine blk_drew ?_ | refine blk_alloc ?_ _)); exact BK108.out) hb); have n3_ := am_ (blk_below (g := gb109) (o := .cells #[.slice none 0 0] 26 (0, 0)) (by (with_reducible repeat (first | refine blk_drewN ?_ _ | refine blk_drew ?_ | refine blk_alloc ?_ _)); refine blk_far ?_ NB109_122.out _; (with_reducible repeat (first | refine blk_drewN ?_ _ | refine blk_drew ?_ | refine blk_alloc ?_ _)); exact BK109.out) hb); have n4_ := am_ (blk_below (g := gb110) (o := .cells #[.int .i64 a1, .int .i64 a2, .int .i64 a3, .bool false] 33 (0, 0)) (by (with_reducible repeat (first | refine blk_drewN ?_ _ | refine blk_drew ?_ | refine blk_alloc ?_ _)); refine blk_far ?_ NB110_122.out _; (with_reducible repeat (first | refine blk_drewN ?_ _ | refine blk_drew ?_ | refine blk_alloc ?_ _)); exact BK110.out) hb); have n5_ := am_ (blk_below (g := gb122) (o := .cells #[.slice Ao43 y119.length co43] 26 (0, 0)) (by (with_reducible repeat (first | refine blk_drewN ?_ _ | refine blk_drew ?_ | refine blk_alloc ?_ _)); refine blk_put (cs := #[.slice none 0 0]) ?_ 0 _ rfl; (with_reducible repeat (first | refine blk_drewN ?_ _ | refine blk_drew ?_ | refine blk_alloc ?_ _)); exact BK122.out) hb); have n6_ := am_ (below_step (be_ HB.out) hb); clear HO118; clear HO121; clear BK108; clear BK109; clear BK110; clear BK122; clear HB; have HO118 := n0_; have HO121 := n1_; have BK108 := n2_; have BK109 := n3_; have BK110 := n4_; have BK122 := n5_; have HB := n6_; clear n0_ n1_ n2_ n3_ n4_ n5_ n6_; (try clear hb); (try clear hb2); (try clear hk); (try clear hi); have hcz50_0 : w49.cell? ⟨gb122, 0, none⟩ = some (.slice Ao43 y119.length co43) := (blk_cell BK122.out 0).trans rfl; have hfz50_0 := blk_frozen BK122.out 0; have hnb51 := NB109_108.out; have hnc51 := NB108_109.out; have hnb52 := NB109_110.out; have hnc52 := NB110_109.out; have hcz53_0 : w49.cell? ⟨gb109, 0, none⟩ = some (.slice none 0 0) := (blk_cell BK109.out 0).trans rfl; have hfz53_0 := blk_frozen BK109.out 0))
      refine bodyPost_ret (results_ct rfl _ _ gb109 26 #[.slice Ao43 y119.length co43] (0, 0) _ rfl (by (with_reducible repeat (first | refine blk_drewN ?_ _ | refine blk_drew ?_ | refine blk_alloc ?_ _)); refine blk_put (cs := #[.slice none 0 0]) ?_ 0 _ rfl; (with_reducible repeat (first | refine blk_drewN ?_ _ | refine blk_drew ?_ | refine blk_alloc ?_ _)); exact BK109.out) Try.underlying26 rfl (by kernel_rfl)) rfl ?_
      exact ⟨_, by first | rfl | (simp [errW_none, errW_some] <;> rfl) | (simp [*, errW_none, errW_some] <;> rfl), by (with_reducible repeat (first | apply Kd.R_alloc | apply Kd.R_drewN | apply Kd.R_drew)); exact Kd.R_mono (Kd.R_far (p := ⟨gb109, 0, none⟩) (Kd.R_types HO121.out BK109.out (by decide)) (fun _ hk => hk.2) (.slice Ao43 y119.length co43)) (fun _ hk => trivial), be_ HB.out⟩
     ·replace c33 := Bool.eq_false_iff.mpr c33
      subst c33
      have H1 : (some (([] : List (S33)), 13)) = some (r1, r2) := by rw [if_neg (show ¬ (false = true) by decide)] at H; exact H
      clear H
      have H := H1
      clear H1
      simp only [Option.some.injEq, Prod.mk.injEq] at H
      obtain ⟨rfl, rfl⟩ := H
      try go_wp2
      have n0_ := am_ (blk_drew BK108.out)
      have n1_ := am_ (blk_drew BK109.out)
      have n2_ := am_ (blk_drew BK110.out)
      have n3_ := am_ (below_drew1 HB.out)
      clear BK108
      clear BK109
      clear BK110
      clear HB
      have BK108 := n0_
      have BK109 := n1_
      have BK110 := n2_
      have HB := n3_
      clear n0_ n1_ n2_ n3_
      refine start_ (n := 9) (S := fun w' => w'.cell? ⟨gb108, 0, none⟩ = some (.slice A0_0 l0_0.length c0_0) ∧ w'.cell? ⟨gb110, 0, none⟩ = some (.int .i64 a1) ∧ w'.cell? ⟨gb110, 1, none⟩ = some (.int .i64 a2) ∧ w'.cell? ⟨gb110, 2, none⟩ = some (.int .i64 a3) ∧ w'.cell? ⟨gb110, 3, none⟩ = some (.bool false)) (ds := []) doA_a0 (by kernel_rfl) rfl rfl ⟨(blk_cell BK108.out 0).trans rfl, (blk_cell BK110.out 0).trans rfl, (blk_cell BK110.out 1).trans rfl, (blk_cell BK110.out 2).trans rfl, (blk_cell BK110.out 3).trans rfl⟩ (fun hHeld => ?_); refine with_tabW oplist_Do.tab4 oplist_Do.bits4 (fun HT_ HW_ => ?_)
      generalize wc.drew = w54 at BK108 BK109 BK110 HB hHeld ⊢
      refine pure_ (i := 0) (N := some 25) (v := ?_) (a' := ?_) doA_a1 rfl rfl (any_of HT_.out (by kernel_rfl)) (fun _ _ _ h => h) (Or.inl ⟨by rfl, ?_⟩) ?_ ?_
      rotate_left
      ·intro w'
       go_simp
       with_reducible rfl
      rotate_left
      ·simp only [Act.put, List.setIfInBounds_toArray, List.set_cons_zero, List.set_cons_succ, i64_w, i32_w]
       rfl
      refine take_ (i := 1) (N := some 26) (v := ?_) (a' := ?_) doA_a2 rfl rfl (take_ofW HT_.out HW_.out (by kernel_rfl)) (fun _ _ _ h => h) (Or.inl ⟨by rfl, ?_⟩) hHeld ?_ ?_
      rotate_left
      ·rintro w' ⟨s0, s1, s2, s3, s4⟩
       go_simp
       with_reducible rfl
      rotate_left
      ·simp only [Act.put, List.setIfInBounds_toArray, List.set_cons_zero, List.set_cons_succ, i64_w, i32_w]
       rfl
      refine take_ (i := 3) (N := some 28) (v := ?_) (a' := ?_) doA_a3 rfl rfl (take_ofW HT_.out HW_.out (by kernel_rfl)) (fun _ _ _ h => h) (Or.inl ⟨by rfl, ?_⟩) hHeld ?_ ?_
      rotate_left
      ·rintro w' ⟨s0, s1, s2, s3, s4⟩
       go_simp
       with_reducible rfl
      rotate_left
      ·simp only [Act.put, List.setIfInBounds_toArray, List.set_cons_zero, List.set_cons_succ, i64_w, i32_w]
       rfl
      refine join_ (σ := Value × Value × Value × Nat) 1 #[true, true, true, true, true, true, true, true, false] (fun s_ => [(27, s_.1), (29, s_.2.1), (30, s_.2.2.1), (11, .pointer (some ⟨s_.2.2.2, 0, none⟩)), (31, .agg #[s_.2.2.1])]) (fun s_ w' => (w'.cell? ⟨gb108, 0, none⟩ = some (.slice A0_0 l0_0.length c0_0) ∧ w'.cell? ⟨gb110, 0, none⟩ = some (.int .i64 a1) ∧ w'.cell? ⟨gb110, 1, none⟩ = some (.int .i64 a2) ∧ w'.cell? ⟨gb110, 2, none⟩ = some (.int .i64 a3) ∧ w'.cell? ⟨gb110, 3, none⟩ = some (.bool false)) ∧ (Kd.R k33 33 w' w.heap.size (fun k_ => some k_ ≠ (s_.2.2.1 : Value).ownBlock ∧ k_ ≠ gb110) s_.2.1 y116) ∧ (Kd.R k33 33 w' w.heap.size (fun k_ => some k_ ≠ (s_.2.1 : Value).ownBlock ∧ k_ ≠ gb110) s_.2.2.1 y119) ∧ (w'.heap[gb108]? = some (.cells #[.slice A0_0 l0_0.length c0_0] 26 (0, 0))) ∧ (w'.heap[gb109]? = some (.cells #[.slice none 0 0] 26 (0, 0))) ∧ (w'.heap[gb110]? = some (.cells #[.int .i64 a1, .int .i64 a2, .int .i64 a3, .bool false] 33 (0, 0))) ∧ (w'.heap[s_.2.2.2]? = some (.cells #[.slice none 0 0] 26 (0, 0))) ∧ (w.heap.size ≤ s_.2.2.2) ∧ (w.heap.size ≤ s_.2.2.2) ∧ (gb108 ≠ s_.2.2.2) ∧ (s_.2.2.2 ≠ gb108) ∧ (gb109 ≠ s_.2.2.2) ∧ (s_.2.2.2 ≠ gb109) ∧ (gb110 ≠ s_.2.2.2) ∧ (s_.2.2.2 ≠ gb110) ∧ (Below w.heap.size w w')) ?_ ?_
      rotate_left
      ·intro hJ2_4_5_7
       refine join_ (σ := Value × Value × Value) 2 #[true, true, true, true, true, true, true, false, false] (fun s_ => [(27, s_.1), (29, s_.2.1), (30, s_.2.2), (31, .agg #[s_.2.2])]) (fun s_ w' => (w'.cell? ⟨gb108, 0, none⟩ = some (.slice A0_0 l0_0.length c0_0) ∧ w'.cell? ⟨gb110, 0, none⟩ = some (.int .i64 a1) ∧ w'.cell? ⟨gb110, 1, none⟩ = some (.int .i64 a2) ∧ w'.cell? ⟨gb110, 2, none⟩ = some (.int .i64 a3) ∧ w'.cell? ⟨gb110, 3, none⟩ = some (.bool false)) ∧ (Kd.R k33 33 w' w.heap.size (fun k_ => some k_ ≠ (s_.2.2 : Value).ownBlock ∧ k_ ≠ gb110) s_.2.1 y116) ∧ (Kd.R k33 33 w' w.heap.size (fun k_ => some k_ ≠ (s_.2.1 : Value).ownBlock ∧ k_ ≠ gb110) s_.2.2 y119) ∧ (w'.heap[gb108]? = some (.cells #[.slice A0_0 l0_0.length c0_0] 26 (0, 0))) ∧ (w'.heap[gb109]? = some (.cells #[.slice none 0 0] 26 (0, 0))) ∧ (w'.heap[gb110]? = some (.cells #[.int .i64 a1, .int .i64 a2, .int .i64 a3, .bool false] 33 (0, 0))) ∧ (Below w.heap.size w w')) ?_ ?_
       rotate_left
       ·intro hJ2_4_5
        refine join_ (σ := Value × Value × Nat) 3 #[true, true, true, true, true, false, false, true, false] (fun s_ => [(27, s_.1), (29, s_.2.1), (11, .pointer (some ⟨s_.2.2, 0, none⟩))]) (fun s_ w' => (w'.cell? ⟨gb108, 0, none⟩ = some (.slice A0_0 l0_0.length c0_0) ∧ w'.cell? ⟨gb110, 0, none⟩ = some (.int .i64 a1) ∧ w'.cell? ⟨gb110, 1, none⟩ = some (.int .i64 a2) ∧ w'.cell? ⟨gb110, 2, none⟩ = some (.int .i64 a3) ∧ w'.cell? ⟨gb110, 3, none⟩ = some (.bool false)) ∧ (Kd.R k33 33 w' w.heap.size (fun k_ => some k_ ≠ (s_.2.1 : Value).ownBlock ∧ k_ ≠ gb110) s_.1 t113) ∧ (Kd.R k33 33 w' w.heap.size (fun k_ => some k_ ≠ (s_.1 : Value).ownBlock ∧ k_ ≠ gb110) s_.2.1 y116) ∧ (w'.heap[gb108]? = some (.cells #[.slice A0_0 l0_0.length c0_0] 26 (0, 0))) ∧ (w'.heap[gb109]? = some (.cells #[.slice none 0 0] 26 (0, 0))) ∧ (w'.heap[gb110]? = some (.cells #[.int .i64 a1, .int .i64 a2, .int .i64 a3, .bool false] 33 (0, 0))) ∧ (w'.heap[s_.2.2]? = some (.cells #[.slice none 0 0] 26 (0, 0))) ∧ (w.heap.size ≤ s_.2.2) ∧ (w.heap.size ≤ s_.2.2) ∧ (gb108 ≠ s_.2.2) ∧ (s_.2.2 ≠ gb108) ∧ (gb109 ≠ s_.2.2) ∧ (s_.2.2 ≠ gb109) ∧ (gb110 ≠ s_.2.2) ∧ (s_.2.2 ≠ gb110) ∧ (Below w.heap.size w w')) ?_ ?_
        rotate_left
        ·intro hJ2_4_7
         refine join_ (σ := Value × Value) 4 #[true, true, true, true, true, false, false, false, false] (fun s_ => [(27, s_.1), (29, s_.2)]) (fun s_ w' => (w'.cell? ⟨gb108, 0, none⟩ = some (.slice A0_0 l0_0.length c0_0) ∧ w'.cell? ⟨gb110, 0, none⟩ = some (.int .i64 a1) ∧ w'.cell? ⟨gb110, 1, none⟩ = some (.int .i64 a2) ∧ w'.cell? ⟨gb110, 2, none⟩ = some (.int .i64 a3) ∧ w'.cell? ⟨gb110, 3, none⟩ = some (.bool false)) ∧ (Kd.R k33 33 w' w.heap.size (fun k_ => some k_ ≠ (s_.2 : Value).ownBlock ∧ k_ ≠ gb110) s_.1 t113) ∧ (Kd.R k33 33 w' w.heap.size (fun k_ => some k_ ≠ (s_.1 : Value).ownBlock ∧ k_ ≠ gb110) s_.2 y116) ∧ (w'.heap[gb108]? = some (.cells #[.slice A0_0 l0_0.length c0_0] 26 (0, 0))) ∧ (w'.heap[gb109]? = some (.cells #[.slice none 0 0] 26 (0, 0))) ∧ (w'.heap[gb110]? = some (.cells #[.int .i64 a1, .int .i64 a2, .int .i64 a3, .bool false] 33 (0, 0))) ∧ (Below w.heap.size w w')) ?_ ?_
         rotate_left
         ·intro hJ2_4
          refine join_ (σ := Value × Nat) 4 #[true, true, true, true, false, false, false, true, false] (fun s_ => [(27, s_.1), (11, .pointer (some ⟨s_.2, 0, none⟩))]) (fun s_ w' => (w'.cell? ⟨gb108, 0, none⟩ = some (.slice A0_0 l0_0.length c0_0) ∧ w'.cell? ⟨gb110, 0, none⟩ = some (.int .i64 a1) ∧ w'.cell? ⟨gb110, 1, none⟩ = some (.int .i64 a2) ∧ w'.cell? ⟨gb110, 2, none⟩ = some (.int .i64 a3) ∧ w'.cell? ⟨gb110, 3, none⟩ = some (.bool false)) ∧ (Kd.R k33 33 w' w.heap.size (fun k_ => k_ ≠ gb110) s_.1 t113) ∧ (w'.heap[gb108]? = some (.cells #[.slice A0_0 l0_0.length c0_0] 26 (0, 0))) ∧ (w'.heap[gb109]? = some (.cells #[.slice none 0 0] 26 (0, 0))) ∧ (w'.heap[gb110]? = some (.cells #[.int .i64 a1, .int .i64 a2, .int .i64 a3, .bool false] 33 (0, 0))) ∧ (w'.heap[s_.2]? = some (.cells #[.slice none 0 0] 26 (0, 0))) ∧ (w.heap.size ≤ s_.2) ∧ (w.heap.size ≤ s_.2) ∧ (gb108 ≠ s_.2) ∧ (s_.2 ≠ gb108) ∧ (gb109 ≠ s_.2) ∧ (s_.2 ≠ gb109) ∧ (gb110 ≠ s_.2) ∧ (s_.2 ≠ gb110) ∧ (Below w.heap.size w w')) ?_ ?_
          rotate_left
          ·intro hJ2_7
           refine join_ (σ := Value × Nat) 4 #[true, true, false, true, true, false, false, true, false] (fun s_ => [(29, s_.1), (11, .pointer (some ⟨s_.2, 0, none⟩))]) (fun s_ w' => (w'.cell? ⟨gb108, 0, none⟩ = some (.slice A0_0 l0_0.length c0_0) ∧ w'.cell? ⟨gb110, 0, none⟩ = some (.int .i64 a1) ∧ w'.cell? ⟨gb110, 1, none⟩ = some (.int .i64 a2) ∧ w'.cell? ⟨gb110, 2, none⟩ = some (.int .i64 a3) ∧ w'.cell? ⟨gb110, 3, none⟩ = some (.bool false)) ∧ (Kd.R k33 33 w' w.heap.size (fun k_ => k_ ≠ gb110) s_.1 y116) ∧ (w'.heap[gb108]? = some (.cells #[.slice A0_0 l0_0.length c0_0] 26 (0, 0))) ∧ (w'.heap[gb109]? = some (.cells #[.slice none 0 0] 26 (0, 0))) ∧ (w'.heap[gb110]? = some (.cells #[.int .i64 a1, .int .i64 a2, .int .i64 a3, .bool false] 33 (0, 0))) ∧ (w'.heap[s_.2]? = some (.cells #[.slice none 0 0] 26 (0, 0))) ∧ (w.heap.size ≤ s_.2) ∧ (w.heap.size ≤ s_.2) ∧ (gb108 ≠ s_.2) ∧ (s_.2 ≠ gb108) ∧ (gb109 ≠ s_.2) ∧ (s_.2 ≠ gb109) ∧ (gb110 ≠ s_.2) ∧ (s_.2 ≠ gb110) ∧ (Below w.heap.size w w')) ?_ ?_
           rotate_left
           ·intro hJ4_7
            refine join_ (σ := Value) 5 #[true, true, true, true, false, false, false, false, false] (fun s_ => [(27, s_)]) (fun s_ w' => (w'.cell? ⟨gb108, 0, none⟩ = some (.slice A0_0 l0_0.length c0_0) ∧ w'.cell? ⟨gb110, 0, none⟩ = some (.int .i64 a1) ∧ w'.cell? ⟨gb110, 1, none⟩ = some (.int .i64 a2) ∧ w'.cell? ⟨gb110, 2, none⟩ = some (.int .i64 a3) ∧ w'.cell? ⟨gb110, 3, none⟩ = some (.bool false)) ∧ (Kd.R k33 33 w' w.heap.size (fun k_ => k_ ≠ gb110) s_ t113) ∧ (w'.heap[gb108]? = some (.cells #[.slice A0_0 l0_0.length c0_0] 26 (0, 0))) ∧ (w'.heap[gb109]? = some (.cells #[.slice none 0 0] 26 (0, 0))) ∧ (w'.heap[gb110]? = some (.cells #[.int .i64 a1, .int .i64 a2, .int .i64 a3, .bool false] 33 (0, 0))) ∧ (Below w.heap.size w w')) ?_ ?_
            rotate_left
            ·intro hJ2
             refine join_ (σ := Value) 5 #[true, true, false, true, true, false, false, false, false] (fun s_ => [(29, s_)]) (fun s_ w' => (w'.cell? ⟨gb108, 0, none⟩ = some (.slice A0_0 l0_0.length c0_0) ∧ w'.cell? ⟨gb110, 0, none⟩ = some (.int .i64 a1) ∧ w'.cell? ⟨gb110, 1, none⟩ = some (.int .i64 a2) ∧ w'.cell? ⟨gb110, 2, none⟩ = some (.int .i64 a3) ∧ w'.cell? ⟨gb110, 3, none⟩ = some (.bool false)) ∧ (Kd.R k33 33 w' w.heap.size (fun k_ => k_ ≠ gb110) s_ y116) ∧ (w'.heap[gb108]? = some (.cells #[.slice A0_0 l0_0.length c0_0] 26 (0, 0))) ∧ (w'.heap[gb109]? = some (.cells #[.slice none 0 0] 26 (0, 0))) ∧ (w'.heap[gb110]? = some (.cells #[.int .i64 a1, .int .i64 a2, .int .i64 a3, .bool false] 33 (0, 0))) ∧ (Below w.heap.size w w')) ?_ ?_
             rotate_left
             ·intro hJ4
              refine join_ (σ := Nat) 5 #[true, true, false, true, false, false, false, true, false] (fun s_ => [(11, .pointer (some ⟨s_, 0, none⟩))]) (fun s_ w' => (w'.cell? ⟨gb108, 0, none⟩ = some (.slice A0_0 l0_0.length c0_0) ∧ w'.cell? ⟨gb110, 0, none⟩ = some (.int .i64 a1) ∧ w'.cell? ⟨gb110, 1, none⟩ = some (.int .i64 a2) ∧ w'.cell? ⟨gb110, 2, none⟩ = some (.int .i64 a3) ∧ w'.cell? ⟨gb110, 3, none⟩ = some (.bool false)) ∧ (w'.heap[gb108]? = some (.cells #[.slice A0_0 l0_0.length c0_0] 26 (0, 0))) ∧ (w'.heap[gb109]? = some (.cells #[.slice none 0 0] 26 (0, 0))) ∧ (w'.heap[gb110]? = some (.cells #[.int .i64 a1, .int .i64 a2, .int .i64 a3, .bool false] 33 (0, 0))) ∧ (w'.heap[s_]? = some (.cells #[.slice none 0 0] 26 (0, 0))) ∧ (w.heap.size ≤ s_) ∧ (w.heap.size ≤ s_) ∧ (gb108 ≠ s_) ∧ (s_ ≠ gb108) ∧ (gb109 ≠ s_) ∧ (s_ ≠ gb109) ∧ (gb110 ≠ s_) ∧ (s_ ≠ gb110) ∧ (Below w.heap.size w w')) ?_ ?_
              rotate_left
              ·intro hJ7
               refine three_ (i := 2) (j := 4) (k := 7) (Ni := some 27) (Nj := some 29) (Nk := some 11) #[true, true, true, true, false, false, false, false, false] #[true, true, false, true, true, false, false, false, false] #[true, true, false, true, false, false, false, true, false] rfl rfl rfl rfl rfl rfl (three_of HT_.out (by kernel_rfl)) (by decide) (by decide) (by decide) (fun K hK => ?_) (fun K hK => ?_) (fun K hK => ?_)
               ·skip
                refine goes_ Try.func31 (by kernel_rfl) rfl #[.slice A0_0 l0_0.length c0_0] (by rfl) rfl rfl ma_ ?_
                with_reducible refine (oplist_Entry_31.calls _ _ l0_0 t113 _ ?side1 ?side2 A30.out).mono ?_
                (case side1 => repeat (first | exact (Kd.C_below HR0_0.out HB.out) | (with_reducible refine Kd.C_alloc ?_ _) | (with_reducible refine Kd.C_drewN ?_ _) | (with_reducible refine Kd.C_drew ?_)))
                (case side2 => exact HC0_0.out)
                rintro e w55 ⟨v114, rfl, ho0, hb⟩
                refine ⟨_, rfl, ?_⟩
                have n0_ := am_ (Kd.R_lower (Kd.R_newB ho0 (g := gb110) (o := .cells #[.int .i64 a1, .int .i64 a2, .int .i64 a3, .bool false] 33 (0, 0)) (bk_ BK110.out)) (below_size (be_ HB.out)))
                have n1_ := am_ (bb_ BK108.out hb)
                have n2_ := am_ (bb_ BK109.out hb)
                have n3_ := am_ (bb_ BK110.out hb)
                have n4_ := am_ (below_step (be_ HB.out) hb)
                clear BK108
                clear BK109
                clear BK110
                clear HB
                have HO115 := n0_
                have BK108 := n1_
                have BK109 := n2_
                have BK110 := n3_
                have HB := n4_
                clear n0_ n1_ n2_ n3_ n4_
                (try clear hb)
                (try clear hb2)
                (try clear hk)
                (try clear hi)
                (try clear ho0)
                refine hK.out _ _ ⟨(blk_cell BK108.out 0).trans rfl, (blk_cell BK110.out 0).trans rfl, (blk_cell BK110.out 1).trans rfl, (blk_cell BK110.out 2).trans rfl, (blk_cell BK110.out 3).trans rfl⟩ (fun hHeld => ?_)
                clear hK K
                refine norm_ (a' := ?_) ?_ ?_
                rotate_left
                ·show Act.put _ (some 27) _ = _
                 simp only [Act.put, List.setIfInBounds_toArray, List.set_cons_zero, List.set_cons_succ, i64_w, i32_w]
                 rfl
                exact norm_ pu_ (hJ2 (v114) _ ⟨hHeld, (by (with_reducible repeat (first | apply Kd.R_alloc | apply Kd.R_drewN | apply Kd.R_drew)); exact Kd.R_mono HO115.out (fun _ hk => hk.2)), (bk_ BK108.out), (bk_ BK109.out), (bk_ BK110.out), (be_ HB.out)⟩)
               ·skip
                refine Kd.R_lit_step k33 _ 33 ?hg (N := 29) ?hd (xs := ([(⟨a1, a2, a3, false⟩ : S33)] : List (S33))) (inner := [.int .i64 a1, .int .i64 a2, .int .i64 a3, .bool false]) (ok := fun _ => True) (okp := fun _ => True) ?hr ?hp (fun _ hk => hk) trivial (Below.refl _ _) (Nat.le_refl _) (by simp) ?_; (case hd => rfl); (case hg => rfl); (case hr => first | (go_simp; done) | (go_simp; rfl)); (case hp => exact (Reps.c4 (show Kd.M k33 _ _ _ (⟨a1, a2, a3, false⟩ : S33) [.int .i64 a1, .int .i64 a2, .int .i64 a3, .bool false] from (k33_mkM _ _ _ (⟨a1, a2, a3, false⟩ : S33) )) (Reps.none _ _)))
                intro v117 w55 ho56 hb hg_ hnew_
                clear hg_ hnew_
                (first | rw [← Ny116.out] at ho56 | (simp only [Int.reduceToNat] at ho56; rw [← Ny116.out] at ho56))
                have n0_ := am_ (Kd.R_lower (Kd.R_newB ho56 (g := gb110) (o := .cells #[.int .i64 a1, .int .i64 a2, .int .i64 a3, .bool false] 33 (0, 0)) (bk_ BK110.out)) (below_size (be_ HB.out)))
                have n1_ := am_ (bb_ BK108.out hb)
                have n2_ := am_ (bb_ BK109.out hb)
                have n3_ := am_ (bb_ BK110.out hb)
                have n4_ := am_ (below_step (be_ HB.out) hb)
                clear BK108
                clear BK109
                clear BK110
                clear HB
                have HO118 := n0_
                have BK108 := n1_
                have BK109 := n2_
                have BK110 := n3_
                have HB := n4_
                clear n0_ n1_ n2_ n3_ n4_
                clear hb ho56
                refine hK.out _ _ ⟨(blk_cell BK108.out 0).trans rfl, (blk_cell BK110.out 0).trans rfl, (blk_cell BK110.out 1).trans rfl, (blk_cell BK110.out 2).trans rfl, (blk_cell BK110.out 3).trans rfl⟩ (fun hHeld => ?_)
                clear hK K
                refine norm_ (a' := ?_) ?_ ?_
                rotate_left
                ·show Act.put _ (some 29) _ = _
                 simp only [Act.put, List.setIfInBounds_toArray, List.set_cons_zero, List.set_cons_succ, i64_w, i32_w]
                 rfl
                exact norm_ pu_ (hJ4 (v117) _ ⟨hHeld, (by (with_reducible repeat (first | apply Kd.R_alloc | apply Kd.R_drewN | apply Kd.R_drew)); exact Kd.R_mono HO118.out (fun _ hk => hk.2)), (bk_ BK108.out), (bk_ BK109.out), (bk_ BK110.out), (be_ HB.out)⟩)
               ·skip
                refine box_step ?hg (N := 11) ?hd (cs := #[.slice none 0 0]) (t := 26) ?hr ?_; (case hd => rfl); (case hg => rfl); (case hr => first | (go_simp; done) | (go_simp; rfl))
                intro gb122 hg w55 hbox hb
                have n0_ := am_ (bb_ BK108.out hb)
                have n1_ := am_ (bb_ BK109.out hb)
                have n2_ := am_ (bb_ BK110.out hb)
                have n3_ := am_ (below_step (be_ HB.out) hb)
                have n4_ := am_ (hbox)
                have n5_ := am_ ((by rw [hg]; exact (below_size (be_ HB.out)) : w.heap.size ≤ gb122))
                have n6_ := am_ ((by rw [hg]; exact (below_size (be_ HB.out)) : w.heap.size ≤ gb122))
                have n7_ := am_ ((by rw [hg]; exact Nat.ne_of_lt (bl_ BK108.out) : gb108 ≠ gb122))
                have n8_ := am_ ((by rw [hg]; exact Nat.ne_of_gt (bl_ BK108.out) : gb122 ≠ gb108))
                have n9_ := am_ ((by rw [hg]; exact Nat.ne_of_lt (bl_ BK109.out) : gb109 ≠ gb122))
                have n10_ := am_ ((by rw [hg]; exact Nat.ne_of_gt (bl_ BK109.out) : gb122 ≠ gb109))
                have n11_ := am_ ((by rw [hg]; exact Nat.ne_of_lt (bl_ BK110.out) : gb110 ≠ gb122))
                have n12_ := am_ ((by rw [hg]; exact Nat.ne_of_gt (bl_ BK110.out) : gb122 ≠ gb110))
                clear BK108
                clear BK109
                clear BK110
                clear HB
                have BK108 := n0_
                have BK109 := n1_
                have BK110 := n2_
                have HB := n3_
                have BK122 := n4_
                have GW122 := n5_
                have GE122 := n6_
                have NB108_122 := n7_
                have NB122_108 := n8_
                have NB109_122 := n9_
                have NB122_109 := n10_
                have NB110_122 := n11_
                have NB122_110 := n12_
                clear n0_ n1_ n2_ n3_ n4_ n5_ n6_ n7_ n8_ n9_ n10_ n11_ n12_
                clear hb hbox hg
                refine hK.out _ _ ⟨(blk_cell BK108.out 0).trans rfl, (blk_cell BK110.out 0).trans rfl, (blk_cell BK110.out 1).trans rfl, (blk_cell BK110.out 2).trans rfl, (blk_cell BK110.out 3).trans rfl⟩ (fun hHeld => ?_)
                clear hK K
                refine norm_ (a' := ?_) ?_ ?_
                rotate_left
                ·show Act.put _ (some 11) _ = _
                 simp only [Act.put, List.setIfInBounds_toArray, List.set_cons_zero, List.set_cons_succ, i64_w, i32_w]
                 rfl
                exact norm_ pu_ (hJ7 (gb122) _ ⟨hHeld, (bk_ BK108.out), (bk_ BK109.out), (bk_ BK110.out), (bk_ BK122.out), GW122.out, GE122.out, NB108_122.out, NB122_108.out, NB109_122.out, NB122_109.out, NB110_122.out, NB122_110.out, (be_ HB.out)⟩)
              ·skip
               rintro gb122 w56 ⟨hS_, h0_, h1_, h2_, h3_, h4_, h5_, h6_, h7_, h8_, h9_, h10_, h11_, h12_⟩
               have n0_ : Aside0 (w56.heap[gb108]? = some (.cells #[.slice A0_0 l0_0.length c0_0] 26 (0, 0))) := ⟨h0_⟩
               have n1_ : Aside0 (w56.heap[gb109]? = some (.cells #[.slice none 0 0] 26 (0, 0))) := ⟨h1_⟩
               have n2_ : Aside0 (w56.heap[gb110]? = some (.cells #[.int .i64 a1, .int .i64 a2, .int .i64 a3, .bool false] 33 (0, 0))) := ⟨h2_⟩
               have n3_ : Aside0 (w56.heap[gb122]? = some (.cells #[.slice none 0 0] 26 (0, 0))) := ⟨h3_⟩
               have n4_ : Aside0 (w.heap.size ≤ gb122) := ⟨h4_⟩
               have n5_ : Aside0 (w.heap.size ≤ gb122) := ⟨h5_⟩
               have n6_ : Aside0 (gb108 ≠ gb122) := ⟨h6_⟩
               have n7_ : Aside0 (gb122 ≠ gb108) := ⟨h7_⟩
               have n8_ : Aside0 (gb109 ≠ gb122) := ⟨h8_⟩
               have n9_ : Aside0 (gb122 ≠ gb109) := ⟨h9_⟩
               have n10_ : Aside0 (gb110 ≠ gb122) := ⟨h10_⟩
               have n11_ : Aside0 (gb122 ≠ gb110) := ⟨h11_⟩
               have n12_ : Aside0 (Below w.heap.size w w56) := ⟨h12_⟩
               clear BK108
               clear BK109
               clear BK110
               clear HB
               clear h0_ h1_ h2_ h3_ h4_ h5_ h6_ h7_ h8_ h9_ h10_ h11_ h12_
               have BK108 := n0_
               have BK109 := n1_
               have BK110 := n2_
               have BK122 := n3_
               have GW122 := n4_
               have GE122 := n5_
               have NB108_122 := n6_
               have NB122_108 := n7_
               have NB109_122 := n8_
               have NB122_109 := n9_
               have NB110_122 := n10_
               have NB122_110 := n11_
               have HB := n12_
               clear n0_ n1_ n2_ n3_ n4_ n5_ n6_ n7_ n8_ n9_ n10_ n11_ n12_
               have hHeld : w56.cell? ⟨gb108, 0, none⟩ = some (.slice A0_0 l0_0.length c0_0) ∧ w56.cell? ⟨gb110, 0, none⟩ = some (.int .i64 a1) ∧ w56.cell? ⟨gb110, 1, none⟩ = some (.int .i64 a2) ∧ w56.cell? ⟨gb110, 2, none⟩ = some (.int .i64 a3) ∧ w56.cell? ⟨gb110, 3, none⟩ = some (.bool false) := hS_
               refine norm_ (a' := ?_) ?_ ?_
               rotate_left
               ·simp only [putAll, Act.put, List.setIfInBounds_toArray, List.set_cons_zero, List.set_cons_succ]
                rfl
               refine two_ (i := 2) (j := 4) (Ni := some 27) (Nj := some 29) #[true, true, true, true, false, false, false, true, false] #[true, true, false, true, true, false, false, true, false] rfl rfl rfl rfl (two_of HT_.out (by kernel_rfl)) (by decide) (by decide) (fun K hK => ?_) (fun K hK => ?_)
               ·skip
                refine goes_ Try.func31 (by kernel_rfl) rfl #[.slice A0_0 l0_0.length c0_0] (by rfl) rfl rfl ma_ ?_
                with_reducible refine (oplist_Entry_31.calls _ _ l0_0 t113 _ ?side1 ?side2 A30.out).mono ?_
                (case side1 => repeat (first | exact (Kd.C_below HR0_0.out HB.out) | (with_reducible refine Kd.C_alloc ?_ _) | (with_reducible refine Kd.C_drewN ?_ _) | (with_reducible refine Kd.C_drew ?_)))
                (case side2 => exact HC0_0.out)
                rintro e w57 ⟨v114, rfl, ho0, hb⟩
                refine ⟨_, rfl, ?_⟩
                have n0_ := am_ (Kd.R_lower (Kd.R_newB ho0 (g := gb110) (o := .cells #[.int .i64 a1, .int .i64 a2, .int .i64 a3, .bool false] 33 (0, 0)) (bk_ BK110.out)) (below_size (be_ HB.out)))
                have n1_ := am_ (bb_ BK108.out hb)
                have n2_ := am_ (bb_ BK109.out hb)
                have n3_ := am_ (bb_ BK110.out hb)
                have n4_ := am_ (bb_ BK122.out hb)
                have n5_ := am_ (below_step (be_ HB.out) hb)
                clear BK108
                clear BK109
                clear BK110
                clear BK122
                clear HB
                have HO115 := n0_
                have BK108 := n1_
                have BK109 := n2_
                have BK110 := n3_
                have BK122 := n4_
                have HB := n5_
                clear n0_ n1_ n2_ n3_ n4_ n5_
                (try clear hb)
                (try clear hb2)
                (try clear hk)
                (try clear hi)
                (try clear ho0)
                refine hK.out _ _ ⟨(blk_cell BK108.out 0).trans rfl, (blk_cell BK110.out 0).trans rfl, (blk_cell BK110.out 1).trans rfl, (blk_cell BK110.out 2).trans rfl, (blk_cell BK110.out 3).trans rfl⟩ (fun hHeld => ?_)
                clear hK K
                refine norm_ (a' := ?_) ?_ ?_
                rotate_left
                ·show Act.put _ (some 27) _ = _
                 simp only [Act.put, List.setIfInBounds_toArray, List.set_cons_zero, List.set_cons_succ, i64_w, i32_w]
                 rfl
                exact norm_ pu_ (hJ2_7 (v114, gb122) _ ⟨hHeld, (by (with_reducible repeat (first | apply Kd.R_alloc | apply Kd.R_drewN | apply Kd.R_drew)); exact Kd.R_mono HO115.out (fun _ hk => hk.2)), (bk_ BK108.out), (bk_ BK109.out), (bk_ BK110.out), (bk_ BK122.out), GW122.out, GE122.out, NB108_122.out, NB122_108.out, NB109_122.out, NB122_109.out, NB110_122.out, NB122_110.out, (be_ HB.out)⟩)
               ·skip
                refine Kd.R_lit_step k33 _ 33 ?hg (N := 29) ?hd (xs := ([(⟨a1, a2, a3, false⟩ : S33)] : List (S33))) (inner := [.int .i64 a1, .int .i64 a2, .int .i64 a3, .bool false]) (ok := fun _ => True) (okp := fun _ => True) ?hr ?hp (fun _ hk => hk) trivial (Below.refl _ _) (Nat.le_refl _) (by simp) ?_; (case hd => rfl); (case hg => rfl); (case hr => first | (go_simp; done) | (go_simp; rfl)); (case hp => exact (Reps.c4 (show Kd.M k33 _ _ _ (⟨a1, a2, a3, false⟩ : S33) [.int .i64 a1, .int .i64 a2, .int .i64 a3, .bool false] from (k33_mkM _ _ _ (⟨a1, a2, a3, false⟩ : S33) )) (Reps.none _ _)))
                intro v117 w57 ho58 hb hg_ hnew_
                clear hg_ hnew_
                (first | rw [← Ny116.out] at ho58 | (simp only [Int.reduceToNat] at ho58; rw [← Ny116.out] at ho58))
                have n0_ := am_ (Kd.R_lower (Kd.R_newB ho58 (g := gb110) (o := .cells #[.int .i64 a1, .int .i64 a2, .int .i64 a3, .bool false] 33 (0, 0)) (bk_ BK110.out)) (below_size (be_ HB.out)))
                have n1_ := am_ (bb_ BK108.out hb)
                have n2_ := am_ (bb_ BK109.out hb)
                have n3_ := am_ (bb_ BK110.out hb)
                have n4_ := am_ (bb_ BK122.out hb)
                have n5_ := am_ (below_step (be_ HB.out) hb)
                clear BK108
                clear BK109
                clear BK110
                clear BK122
                clear HB
                have HO118 := n0_
                have BK108 := n1_
                have BK109 := n2_
                have BK110 := n3_
                have BK122 := n4_
                have HB := n5_
                clear n0_ n1_ n2_ n3_ n4_ n5_
                clear hb ho58
                refine hK.out _ _ ⟨(blk_cell BK108.out 0).trans rfl, (blk_cell BK110.out 0).trans rfl, (blk_cell BK110.out 1).trans rfl, (blk_cell BK110.out 2).trans rfl, (blk_cell BK110.out 3).trans rfl⟩ (fun hHeld => ?_)
                clear hK K
                refine norm_ (a' := ?_) ?_ ?_
                rotate_left
                ·show Act.put _ (some 29) _ = _
                 simp only [Act.put, List.setIfInBounds_toArray, List.set_cons_zero, List.set_cons_succ, i64_w, i32_w]
                 rfl
                exact norm_ pu_ (hJ4_7 (v117, gb122) _ ⟨hHeld, (by (with_reducible repeat (first | apply Kd.R_alloc | apply Kd.R_drewN | apply Kd.R_drew)); exact Kd.R_mono HO118.out (fun _ hk => hk.2)), (bk_ BK108.out), (bk_ BK109.out), (bk_ BK110.out), (bk_ BK122.out), GW122.out, GE122.out, NB108_122.out, NB122_108.out, NB109_122.out, NB122_109.out, NB110_122.out, NB122_110.out, (be_ HB.out)⟩)
             ·skip
              rintro v117 w57 ⟨hS_, h0_, h1_, h2_, h3_, h4_⟩
              have n0_ : Aside0 (Kd.R k33 33 w57 w.heap.size (fun k_ => k_ ≠ gb110) v117 y116) := ⟨h0_⟩
              have n1_ : Aside0 (w57.heap[gb108]? = some (.cells #[.slice A0_0 l0_0.length c0_0] 26 (0, 0))) := ⟨h1_⟩
              have n2_ : Aside0 (w57.heap[gb109]? = some (.cells #[.slice none 0 0] 26 (0, 0))) := ⟨h2_⟩
              have n3_ : Aside0 (w57.heap[gb110]? = some (.cells #[.int .i64 a1, .int .i64 a2, .int .i64 a3, .bool false] 33 (0, 0))) := ⟨h3_⟩
              have n4_ : Aside0 (Below w.heap.size w w57) := ⟨h4_⟩
              clear BK108
              clear BK109
              clear BK110
              clear HB
              clear h0_ h1_ h2_ h3_ h4_
              have HO118 := n0_
              have BK108 := n1_
              have BK109 := n2_
              have BK110 := n3_
              have HB := n4_
              clear n0_ n1_ n2_ n3_ n4_
              have hHeld : w57.cell? ⟨gb108, 0, none⟩ = some (.slice A0_0 l0_0.length c0_0) ∧ w57.cell? ⟨gb110, 0, none⟩ = some (.int .i64 a1) ∧ w57.cell? ⟨gb110, 1, none⟩ = some (.int .i64 a2) ∧ w57.cell? ⟨gb110, 2, none⟩ = some (.int .i64 a3) ∧ w57.cell? ⟨gb110, 3, none⟩ = some (.bool false) := hS_
              refine norm_ (a' := ?_) ?_ ?_
              rotate_left
              ·simp only [putAll, Act.put, List.setIfInBounds_toArray, List.set_cons_zero, List.set_cons_succ]
               rfl
              refine two_ (i := 2) (j := 7) (Ni := some 27) (Nj := some 11) #[true, true, true, true, true, false, false, false, false] #[true, true, false, true, true, false, false, true, false] rfl rfl rfl rfl (two_of HT_.out (by kernel_rfl)) (by decide) (by decide) (fun K hK => ?_) (fun K hK => ?_)
              ·skip
               refine goes_ Try.func31 (by kernel_rfl) rfl #[.slice A0_0 l0_0.length c0_0] (by rfl) rfl rfl ma_ ?_
               with_reducible refine (oplist_Entry_31.calls _ _ l0_0 t113 _ ?side1 ?side2 A30.out).mono ?_
               (case side1 => repeat (first | exact (Kd.C_below HR0_0.out HB.out) | (with_reducible refine Kd.C_alloc ?_ _) | (with_reducible refine Kd.C_drewN ?_ _) | (with_reducible refine Kd.C_drew ?_)))
               (case side2 => exact HC0_0.out)
               rintro e w58 ⟨v114, rfl, ho0, hb⟩
               refine ⟨_, rfl, ?_⟩
               have n0_ := am_ (Kd.R_elder' (ro_ HO118.out) (Kd.R_base ho0) hb)
               have n1_ := am_ (Kd.R_lower (Kd.R_newB (Kd.R_new' ho0 (Kd.R_lt (ro_ HO118.out))) (g := gb110) (o := .cells #[.int .i64 a1, .int .i64 a2, .int .i64 a3, .bool false] 33 (0, 0)) (bk_ BK110.out)) (below_size (be_ HB.out)))
               have n2_ := am_ (bb_ BK108.out hb)
               have n3_ := am_ (bb_ BK109.out hb)
               have n4_ := am_ (bb_ BK110.out hb)
               have n5_ := am_ (below_step (be_ HB.out) hb)
               clear HO118
               clear BK108
               clear BK109
               clear BK110
               clear HB
               have HO118 := n0_
               have HO115 := n1_
               have BK108 := n2_
               have BK109 := n3_
               have BK110 := n4_
               have HB := n5_
               clear n0_ n1_ n2_ n3_ n4_ n5_
               (try clear hb)
               (try clear hb2)
               (try clear hk)
               (try clear hi)
               (try clear ho0)
               refine hK.out _ _ ⟨(blk_cell BK108.out 0).trans rfl, (blk_cell BK110.out 0).trans rfl, (blk_cell BK110.out 1).trans rfl, (blk_cell BK110.out 2).trans rfl, (blk_cell BK110.out 3).trans rfl⟩ (fun hHeld => ?_)
               clear hK K
               refine norm_ (a' := ?_) ?_ ?_
               rotate_left
               ·show Act.put _ (some 27) _ = _
                simp only [Act.put, List.setIfInBounds_toArray, List.set_cons_zero, List.set_cons_succ, i64_w, i32_w]
                rfl
               exact norm_ pu_ (hJ2_4 (v114, v117) _ ⟨hHeld, (by (with_reducible repeat (first | apply Kd.R_alloc | apply Kd.R_drewN | apply Kd.R_drew)); exact Kd.R_mono HO115.out (fun _ hk => ⟨hk.1.2, hk.2⟩)), (by (with_reducible repeat (first | apply Kd.R_alloc | apply Kd.R_drewN | apply Kd.R_drew)); exact Kd.R_mono HO118.out (fun _ hk => ⟨hk.2, hk.1⟩)), (bk_ BK108.out), (bk_ BK109.out), (bk_ BK110.out), (be_ HB.out)⟩)
              ·skip
               refine box_step ?hg (N := 11) ?hd (cs := #[.slice none 0 0]) (t := 26) ?hr ?_; (case hd => rfl); (case hg => rfl); (case hr => first | (go_simp; done) | (go_simp; rfl))
               intro gb122 hg w58 hbox hb
               have n0_ := am_ (Kd.R_below (ro_ HO118.out) hb)
               have n1_ := am_ (bb_ BK108.out hb)
               have n2_ := am_ (bb_ BK109.out hb)
               have n3_ := am_ (bb_ BK110.out hb)
               have n4_ := am_ (below_step (be_ HB.out) hb)
               have n5_ := am_ (hbox)
               have n6_ := am_ ((by rw [hg]; exact (below_size (be_ HB.out)) : w.heap.size ≤ gb122))
               have n7_ := am_ ((by rw [hg]; exact (below_size (be_ HB.out)) : w.heap.size ≤ gb122))
               have n8_ := am_ ((by rw [hg]; exact Nat.ne_of_lt (bl_ BK108.out) : gb108 ≠ gb122))
               have n9_ := am_ ((by rw [hg]; exact Nat.ne_of_gt (bl_ BK108.out) : gb122 ≠ gb108))
               have n10_ := am_ ((by rw [hg]; exact Nat.ne_of_lt (bl_ BK109.out) : gb109 ≠ gb122))
               have n11_ := am_ ((by rw [hg]; exact Nat.ne_of_gt (bl_ BK109.out) : gb122 ≠ gb109))
               have n12_ := am_ ((by rw [hg]; exact Nat.ne_of_lt (bl_ BK110.out) : gb110 ≠ gb122))
               have n13_ := am_ ((by rw [hg]; exact Nat.ne_of_gt (bl_ BK110.out) : gb122 ≠ gb110))
               clear HO118
               clear BK108
               clear BK109
               clear BK110
               clear HB
               have HO118 := n0_
               have BK108 := n1_
               have BK109 := n2_
               have BK110 := n3_
               have HB := n4_
               have BK122 := n5_
               have GW122 := n6_
               have GE122 := n7_
               have NB108_122 := n8_
               have NB122_108 := n9_
               have NB109_122 := n10_
               have NB122_109 := n11_
               have NB110_122 := n12_
               have NB122_110 := n13_
               clear n0_ n1_ n2_ n3_ n4_ n5_ n6_ n7_ n8_ n9_ n10_ n11_ n12_ n13_
               clear hb hbox hg
               refine hK.out _ _ ⟨(blk_cell BK108.out 0).trans rfl, (blk_cell BK110.out 0).trans rfl, (blk_cell BK110.out 1).trans rfl, (blk_cell BK110.out 2).trans rfl, (blk_cell BK110.out 3).trans rfl⟩ (fun hHeld => ?_)
               clear hK K
               refine norm_ (a' := ?_) ?_ ?_
               rotate_left
               ·show Act.put _ (some 11) _ = _
                simp only [Act.put, List.setIfInBounds_toArray, List.set_cons_zero, List.set_cons_succ, i64_w, i32_w]
                rfl
               exact norm_ pu_ (hJ4_7 (v117, gb122) _ ⟨hHeld, (ro_ HO118.out), (bk_ BK108.out), (bk_ BK109.out), (bk_ BK110.out), (bk_ BK122.out), GW122.out, GE122.out, NB108_122.out, NB122_108.out, NB109_122.out, NB122_109.out, NB110_122.out, NB122_110.out, (be_ HB.out)⟩)
            ·skip
             rintro v114 w56 ⟨hS_, h0_, h1_, h2_, h3_, h4_⟩
             have n0_ : Aside0 (Kd.R k33 33 w56 w.heap.size (fun k_ => k_ ≠ gb110) v114 t113) := ⟨h0_⟩
             have n1_ : Aside0 (w56.heap[gb108]? = some (.cells #[.slice A0_0 l0_0.length c0_0] 26 (0, 0))) := ⟨h1_⟩
             have n2_ : Aside0 (w56.heap[gb109]? = some (.cells #[.slice none 0 0] 26 (0, 0))) := ⟨h2_⟩
             have n3_ : Aside0 (w56.heap[gb110]? = some (.cells #[.int .i64 a1, .int .i64 a2, .int .i64 a3, .bool false] 33 (0, 0))) := ⟨h3_⟩
             have n4_ : Aside0 (Below w.heap.size w w56) := ⟨h4_⟩
             clear BK108
             clear BK109
             clear BK110
             clear HB
             clear h0_ h1_ h2_ h3_ h4_
             have HO115 := n0_
             have BK108 := n1_
             have BK109 := n2_
             have BK110 := n3_
             have HB := n4_
             clear n0_ n1_ n2_ n3_ n4_
             have hHeld : w56.cell? ⟨gb108, 0, none⟩ = some (.slice A0_0 l0_0.length c0_0) ∧ w56.cell? ⟨gb110, 0, none⟩ = some (.int .i64 a1) ∧ w56.cell? ⟨gb110, 1, none⟩ = some (.int .i64 a2) ∧ w56.cell? ⟨gb110, 2, none⟩ = some (.int .i64 a3) ∧ w56.cell? ⟨gb110, 3, none⟩ = some (.bool false) := hS_
             refine norm_ (a' := ?_) ?_ ?_
             rotate_left
             ·simp only [putAll, Act.put, List.setIfInBounds_toArray, List.set_cons_zero, List.set_cons_succ]
              rfl
             refine two_ (i := 4) (j := 7) (Ni := some 29) (Nj := some 11) #[true, true, true, true, true, false, false, false, false] #[true, true, true, true, false, false, false, true, false] rfl rfl rfl rfl (two_of HT_.out (by kernel_rfl)) (by decide) (by decide) (fun K hK => ?_) (fun K hK => ?_)
             ·skip
              refine Kd.R_lit_step k33 _ 33 ?hg (N := 29) ?hd (xs := ([(⟨a1, a2, a3, false⟩ : S33)] : List (S33))) (inner := [.int .i64 a1, .int .i64 a2, .int .i64 a3, .bool false]) (ok := fun _ => True) (okp := fun _ => True) ?hr ?hp (fun _ hk => hk) trivial (Below.refl _ _) (Nat.le_refl _) (by simp) ?_; (case hd => rfl); (case hg => rfl); (case hr => first | (go_simp; done) | (go_simp; rfl)); (case hp => exact (Reps.c4 (show Kd.M k33 _ _ _ (⟨a1, a2, a3, false⟩ : S33) [.int .i64 a1, .int .i64 a2, .int .i64 a3, .bool false] from (k33_mkM _ _ _ (⟨a1, a2, a3, false⟩ : S33) )) (Reps.none _ _)))
              intro v117 w57 ho58 hb hg_ hnew_
              clear hg_ hnew_
              (first | rw [← Ny116.out] at ho58 | (simp only [Int.reduceToNat] at ho58; rw [← Ny116.out] at ho58))
              have n0_ := am_ (Kd.R_elder' (ro_ HO115.out) (Kd.R_base ho58) hb)
              have n1_ := am_ (Kd.R_lower (Kd.R_newB (Kd.R_new' ho58 (Kd.R_lt (ro_ HO115.out))) (g := gb110) (o := .cells #[.int .i64 a1, .int .i64 a2, .int .i64 a3, .bool false] 33 (0, 0)) (bk_ BK110.out)) (below_size (be_ HB.out)))
              have n2_ := am_ (bb_ BK108.out hb)
              have n3_ := am_ (bb_ BK109.out hb)
              have n4_ := am_ (bb_ BK110.out hb)
              have n5_ := am_ (below_step (be_ HB.out) hb)
              clear HO115
              clear BK108
              clear BK109
              clear BK110
              clear HB
              have HO115 := n0_
              have HO118 := n1_
              have BK108 := n2_
              have BK109 := n3_
              have BK110 := n4_
              have HB := n5_
              clear n0_ n1_ n2_ n3_ n4_ n5_
              clear hb ho58
              refine hK.out _ _ ⟨(blk_cell BK108.out 0).trans rfl, (blk_cell BK110.out 0).trans rfl, (blk_cell BK110.out 1).trans rfl, (blk_cell BK110.out 2).trans rfl, (blk_cell BK110.out 3).trans rfl⟩ (fun hHeld => ?_)
              clear hK K
              refine norm_ (a' := ?_) ?_ ?_
              rotate_left
              ·show Act.put _ (some 29) _ = _
               simp only [Act.put, List.setIfInBounds_toArray, List.set_cons_zero, List.set_cons_succ, i64_w, i32_w]
               rfl
              exact norm_ pu_ (hJ2_4 (v114, v117) _ ⟨hHeld, (by (with_reducible repeat (first | apply Kd.R_alloc | apply Kd.R_drewN | apply Kd.R_drew)); exact Kd.R_mono HO115.out (fun _ hk => ⟨hk.2, hk.1⟩)), (by (with_reducible repeat (first | apply Kd.R_alloc | apply Kd.R_drewN | apply Kd.R_drew)); exact Kd.R_mono HO118.out (fun _ hk => ⟨hk.1.2, hk.2⟩)), (bk_ BK108.out), (bk_ BK109.out), (bk_ BK110.out), (be_ HB.out)⟩)
             ·skip
              refine box_step ?hg (N := 11) ?hd (cs := #[.slice none 0 0]) (t := 26) ?hr ?_; (case hd => rfl); (case hg => rfl); (case hr => first | (go_simp; done) | (go_simp; rfl))
              intro gb122 hg w57 hbox hb
              have n0_ := am_ (Kd.R_below (ro_ HO115.out) hb)
              have n1_ := am_ (bb_ BK108.out hb)
              have n2_ := am_ (bb_ BK109.out hb)
              have n3_ := am_ (bb_ BK110.out hb)
              have n4_ := am_ (below_step (be_ HB.out) hb)
              have n5_ := am_ (hbox)
              have n6_ := am_ ((by rw [hg]; exact (below_size (be_ HB.out)) : w.heap.size ≤ gb122))
              have n7_ := am_ ((by rw [hg]; exact (below_size (be_ HB.out)) : w.heap.size ≤ gb122))
              have n8_ := am_ ((by rw [hg]; exact Nat.ne_of_lt (bl_ BK108.out) : gb108 ≠ gb122))
              have n9_ := am_ ((by rw [hg]; exact Nat.ne_of_gt (bl_ BK108.out) : gb122 ≠ gb108))
              have n10_ := am_ ((by rw [hg]; exact Nat.ne_of_lt (bl_ BK109.out) : gb109 ≠ gb122))
              have n11_ := am_ ((by rw [hg]; exact Nat.ne_of_gt (bl_ BK109.out) : gb122 ≠ gb109))
              have n12_ := am_ ((by rw [hg]; exact Nat.ne_of_lt (bl_ BK110.out) : gb110 ≠ gb122))
              have n13_ := am_ ((by rw [hg]; exact Nat.ne_of_gt (bl_ BK110.out) : gb122 ≠ gb110))
              clear HO115
              clear BK108
              clear BK109
              clear BK110
              clear HB
              have HO115 := n0_
              have BK108 := n1_
              have BK109 := n2_
              have BK110 := n3_
              have HB := n4_
              have BK122 := n5_
              have GW122 := n6_
              have GE122 := n7_
              have NB108_122 := n8_
              have NB122_108 := n9_
              have NB109_122 := n10_
              have NB122_109 := n11_
              have NB110_122 := n12_
              have NB122_110 := n13_
              clear n0_ n1_ n2_ n3_ n4_ n5_ n6_ n7_ n8_ n9_ n10_ n11_ n12_ n13_
              clear hb hbox hg
              refine hK.out _ _ ⟨(blk_cell BK108.out 0).trans rfl, (blk_cell BK110.out 0).trans rfl, (blk_cell BK110.out 1).trans rfl, (blk_cell BK110.out 2).trans rfl, (blk_cell BK110.out 3).trans rfl⟩ (fun hHeld => ?_)
              clear hK K
              refine norm_ (a' := ?_) ?_ ?_
              rotate_left
              ·show Act.put _ (some 11) _ = _
               simp only [Act.put, List.setIfInBounds_toArray, List.set_cons_zero, List.set_cons_succ, i64_w, i32_w]
               rfl
              exact norm_ pu_ (hJ2_7 (v114, gb122) _ ⟨hHeld, (ro_ HO115.out), (bk_ BK108.out), (bk_ BK109.out), (bk_ BK110.out), (bk_ BK122.out), GW122.out, GE122.out, NB108_122.out, NB122_108.out, NB109_122.out, NB122_109.out, NB110_122.out, NB122_110.out, (be_ HB.out)⟩)
           ·skip
            rintro ⟨v117, gb122⟩ w58 ⟨hS_, h0_, h1_, h2_, h3_, h4_, h5_, h6_, h7_, h8_, h9_, h10_, h11_, h12_, h13_⟩
            have n0_ : Aside0 (Kd.R k33 33 w58 w.heap.size (fun k_ => k_ ≠ gb110) v117 y116) := ⟨h0_⟩
            have n1_ : Aside0 (w58.heap[gb108]? = some (.cells #[.slice A0_0 l0_0.length c0_0] 26 (0, 0))) := ⟨h1_⟩
            have n2_ : Aside0 (w58.heap[gb109]? = some (.cells #[.slice none 0 0] 26 (0, 0))) := ⟨h2_⟩
            have n3_ : Aside0 (w58.heap[gb110]? = some (.cells #[.int .i64 a1, .int .i64 a2, .int .i64 a3, .bool false] 33 (0, 0))) := ⟨h3_⟩
            have n4_ : Aside0 (w58.heap[gb122]? = some (.cells #[.slice none 0 0] 26 (0, 0))) := ⟨h4_⟩
            have n5_ : Aside0 (w.heap.size ≤ gb122) := ⟨h5_⟩
            have n6_ : Aside0 (w.heap.size ≤ gb122) := ⟨h6_⟩
            have n7_ : Aside0 (gb108 ≠ gb122) := ⟨h7_⟩
            have n8_ : Aside0 (gb122 ≠ gb108) := ⟨h8_⟩
            have n9_ : Aside0 (gb109 ≠ gb122) := ⟨h9_⟩
            have n10_ : Aside0 (gb122 ≠ gb109) := ⟨h10_⟩
            have n11_ : Aside0 (gb110 ≠ gb122) := ⟨h11_⟩
            have n12_ : Aside0 (gb122 ≠ gb110) := ⟨h12_⟩
            have n13_ : Aside0 (Below w.heap.size w w58) := ⟨h13_⟩
            clear BK108
            clear BK109
            clear BK110
            clear HB
            clear h0_ h1_ h2_ h3_ h4_ h5_ h6_ h7_ h8_ h9_ h10_ h11_ h12_ h13_
            have HO118 := n0_
            have BK108 := n1_
            have BK109 := n2_
            have BK110 := n3_
            have BK122 := n4_
            have GW122 := n5_
            have GE122 := n6_
            have NB108_122 := n7_
            have NB122_108 := n8_
            have NB109_122 := n9_
            have NB122_109 := n10_
            have NB110_122 := n11_
            have NB122_110 := n12_
            have HB := n13_
            clear n0_ n1_ n2_ n3_ n4_ n5_ n6_ n7_ n8_ n9_ n10_ n11_ n12_ n13_
            have hHeld : w58.cell? ⟨gb108, 0, none⟩ = some (.slice A0_0 l0_0.length c0_0) ∧ w58.cell? ⟨gb110, 0, none⟩ = some (.int .i64 a1) ∧ w58.cell? ⟨gb110, 1, none⟩ = some (.int .i64 a2) ∧ w58.cell? ⟨gb110, 2, none⟩ = some (.int .i64 a3) ∧ w58.cell? ⟨gb110, 3, none⟩ = some (.bool false) := hS_
            refine norm_ (a' := ?_) ?_ ?_
            rotate_left
            ·simp only [putAll, Act.put, List.setIfInBounds_toArray, List.set_cons_zero, List.set_cons_succ]
             rfl
            refine one_ (i := 2) (N := some 27) #[true, true, true, true, true, false, false, true, false] rfl rfl (one_of HT_.out (by kernel_rfl)) (by decide) (fun K hK => ?_)
            refine goes_ Try.func31 (by kernel_rfl) rfl #[.slice A0_0 l0_0.length c0_0] (by rfl) rfl rfl ma_ ?_
            with_reducible refine (oplist_Entry_31.calls _ _ l0_0 t113 _ ?side1 ?side2 A30.out).mono ?_
            (case side1 => repeat (first | exact (Kd.C_below HR0_0.out HB.out) | (with_reducible refine Kd.C_alloc ?_ _) | (with_reducible refine Kd.C_drewN ?_ _) | (with_reducible refine Kd.C_drew ?_)))
            (case side2 => exact HC0_0.out)
            rintro e w59 ⟨v114, rfl, ho0, hb⟩
            refine ⟨_, rfl, ?_⟩
            have n0_ := am_ (Kd.R_elder' (ro_ HO118.out) (Kd.R_base ho0) hb)
            have n1_ := am_ (Kd.R_lower (Kd.R_newB (Kd.R_new' ho0 (Kd.R_lt (ro_ HO118.out))) (g := gb110) (o := .cells #[.int .i64 a1, .int .i64 a2, .int .i64 a3, .bool false] 33 (0, 0)) (bk_ BK110.out)) (below_size (be_ HB.out)))
            have n2_ := am_ (bb_ BK108.out hb)
            have n3_ := am_ (bb_ BK109.out hb)
            have n4_ := am_ (bb_ BK110.out hb)
            have n5_ := am_ (bb_ BK122.out hb)
            have n6_ := am_ (below_step (be_ HB.out) hb)
            clear HO118
            clear BK108
            clear BK109
            clear BK110
            clear BK122
            clear HB
            have HO118 := n0_
            have HO115 := n1_
            have BK108 := n2_
            have BK109 := n3_
            have BK110 := n4_
            have BK122 := n5_
            have HB := n6_
            clear n0_ n1_ n2_ n3_ n4_ n5_ n6_
            (try clear hb)
            (try clear hb2)
            (try clear hk)
            (try clear hi)
            (try clear ho0)
            refine hK.out _ _ ⟨(blk_cell BK108.out 0).trans rfl, (blk_cell BK110.out 0).trans rfl, (blk_cell BK110.out 1).trans rfl, (blk_cell BK110.out 2).trans rfl, (blk_cell BK110.out 3).trans rfl⟩ (fun hHeld => ?_)
            clear hK K
            refine norm_ (a' := ?_) ?_ ?_
            rotate_left
            ·show Act.put _ (some 27) _ = _
             simp only [Act.put, List.setIfInBounds_toArray, List.set_cons_zero, List.set_cons_succ, i64_w, i32_w]
             rfl
            exact norm_ pu_ (hJ2_4_7 (v114, v117, gb122) _ ⟨hHeld, (by (with_reducible repeat (first | apply Kd.R_alloc | apply Kd.R_drewN | apply Kd.R_drew)); exact Kd.R_mono HO115.out (fun _ hk => ⟨hk.1.2, hk.2⟩)), (by (with_reducible repeat (first | apply Kd.R_alloc | apply Kd.R_drewN | apply Kd.R_drew)); exact Kd.R_mono HO118.out (fun _ hk => ⟨hk.2, hk.1⟩)), (bk_ BK108.out), (bk_ BK109.out), (bk_ BK110.out), (bk_ BK122.out), GW122.out, GE122.out, NB108_122.out, NB122_108.out, NB109_122.out, NB122_109.out, NB110_122.out, NB122_110.out, (be_ HB.out)⟩)
          ·skip
           rintro ⟨v114, gb122⟩ w57 ⟨hS_, h0_, h1_, h2_, h3_, h4_, h5_, h6_, h7_, h8_, h9_, h10_, h11_, h12_, h13_⟩
           have n0_ : Aside0 (Kd.R k33 33 w57 w.heap.size (fun k_ => k_ ≠ gb110) v114 t113) := ⟨h0_⟩
           have n1_ : Aside0 (w57.heap[gb108]? = some (.cells #[.slice A0_0 l0_0.length c0_0] 26 (0, 0))) := ⟨h1_⟩
           have n2_ : Aside0 (w57.heap[gb109]? = some (.cells #[.slice none 0 0] 26 (0, 0))) := ⟨h2_⟩
           have n3_ : Aside0 (w57.heap[gb110]? = some (.cells #[.int .i64 a1, .int .i64 a2, .int .i64 a3, .bool false] 33 (0, 0))) := ⟨h3_⟩
           have n4_ : Aside0 (w57.heap[gb122]? = some (.cells #[.slice none 0 0] 26 (0, 0))) := ⟨h4_⟩
           have n5_ : Aside0 (w.heap.size ≤ gb122) := ⟨h5_⟩
           have n6_ : Aside0 (w.heap.size ≤ gb122) := ⟨h6_⟩
           have n7_ : Aside0 (gb108 ≠ gb122) := ⟨h7_⟩
           have n8_ : Aside0 (gb122 ≠ gb108) := ⟨h8_⟩
           have n9_ : Aside0 (gb109 ≠ gb122) := ⟨h9_⟩
           have n10_ : Aside0 (gb122 ≠ gb109) := ⟨h10_⟩
           have n11_ : Aside0 (gb110 ≠ gb122) := ⟨h11_⟩
           have n12_ : Aside0 (gb122 ≠ gb110) := ⟨h12_⟩
           have n13_ : Aside0 (Below w.heap.size w w57) := ⟨h13_⟩
           clear BK108
           clear BK109
           clear BK110
           clear HB
           clear h0_ h1_ h2_ h3_ h4_ h5_ h6_ h7_ h8_ h9_ h10_ h11_ h12_ h13_
           have HO115 := n0_
           have BK108 := n1_
           have BK109 := n2_
           have BK110 := n3_
           have BK122 := n4_
           have GW122 := n5_
           have GE122 := n6_
           have NB108_122 := n7_
           have NB122_108 := n8_
           have NB109_122 := n9_
           have NB122_109 := n10_
           have NB110_122 := n11_
           have NB122_110 := n12_
           have HB := n13_
           clear n0_ n1_ n2_ n3_ n4_ n5_ n6_ n7_ n8_ n9_ n10_ n11_ n12_ n13_
           have hHeld : w57.cell? ⟨gb108, 0, none⟩ = some (.slice A0_0 l0_0.length c0_0) ∧ w57.cell? ⟨gb110, 0, none⟩ = some (.int .i64 a1) ∧ w57.cell? ⟨gb110, 1, none⟩ = some (.int .i64 a2) ∧ w57.cell? ⟨gb110, 2, none⟩ = some (.int .i64 a3) ∧ w57.cell? ⟨gb110, 3, none⟩ = some (.bool false) := hS_
           refine norm_ (a' := ?_) ?_ ?_
           rotate_left
           ·simp only [putAll, Act.put, List.setIfInBounds_toArray, List.set_cons_zero, List.set_cons_succ]
            rfl
           refine one_ (i := 4) (N := some 29) #[true, true, true, true, true, false, false, true, false] rfl rfl (one_of HT_.out (by kernel_rfl)) (by decide) (fun K hK => ?_)
           refine Kd.R_lit_step k33 _ 33 ?hg (N := 29) ?hd (xs := ([(⟨a1, a2, a3, false⟩ : S33)] : List (S33))) (inner := [.int .i64 a1, .int .i64 a2, .int .i64 a3, .bool false]) (ok := fun _ => True) (okp := fun _ => True) ?hr ?hp (fun _ hk => hk) trivial (Below.refl _ _) (Nat.le_refl _) (by simp) ?_; (case hd => rfl); (case hg => rfl); (case hr => first | (go_simp; done) | (go_simp; rfl)); (case hp => exact (Reps.c4 (show Kd.M k33 _ _ _ (⟨a1, a2, a3, false⟩ : S33) [.int .i64 a1, .int .i64 a2, .int .i64 a3, .bool false] from (k33_mkM _ _ _ (⟨a1, a2, a3, false⟩ : S33) )) (Reps.none _ _)))
           intro v117 w58 ho59 hb hg_ hnew_
           clear hg_ hnew_
           (first | rw [← Ny116.out] at ho59 | (simp only [Int.reduceToNat] at ho59; rw [← Ny116.out] at ho59))
           have n0_ := am_ (Kd.R_elder' (ro_ HO115.out) (Kd.R_base ho59) hb)
           have n1_ := am_ (Kd.R_lower (Kd.R_newB (Kd.R_new' ho59 (Kd.R_lt (ro_ HO115.out))) (g := gb110) (o := .cells #[.int .i64 a1, .int .i64 a2, .int .i64 a3, .bool false] 33 (0, 0)) (bk_ BK110.out)) (below_size (be_ HB.out)))
           have n2_ := am_ (bb_ BK108.out hb)
           have n3_ := am_ (bb_ BK109.out hb)
           have n4_ := am_ (bb_ BK110.out hb)
           have n5_ := am_ (bb_ BK122.out hb)
           have n6_ := am_ (below_step (be_ HB.out) hb)
           clear HO115
           clear BK108
           clear BK109
           clear BK110
           clear BK122
           clear HB
           have HO115 := n0_
           have HO118 := n1_
           have BK108 := n2_
           have BK109 := n3_
           have BK110 := n4_
           have BK122 := n5_
           have HB := n6_
           clear n0_ n1_ n2_ n3_ n4_ n5_ n6_
           clear hb ho59
           refine hK.out _ _ ⟨(blk_cell BK108.out 0).trans rfl, (blk_cell BK110.out 0).trans rfl, (blk_cell BK110.out 1).trans rfl, (blk_cell BK110.out 2).trans rfl, (blk_cell BK110.out 3).trans rfl⟩ (fun hHeld => ?_)
           clear hK K
           refine norm_ (a' := ?_) ?_ ?_
           rotate_left
           ·show Act.put _ (some 29) _ = _
            simp only [Act.put, List.setIfInBounds_toArray, List.set_cons_zero, List.set_cons_succ, i64_w, i32_w]
            rfl
           exact norm_ pu_ (hJ2_4_7 (v114, v117, gb122) _ ⟨hHeld, (by (with_reducible repeat (first | apply Kd.R_alloc | apply Kd.R_drewN | apply Kd.R_drew)); exact Kd.R_mono HO115.out (fun _ hk => ⟨hk.2, hk.1⟩)), (by (with_reducible repeat (first | apply Kd.R_alloc | apply Kd.R_drewN | apply Kd.R_drew)); exact Kd.R_mono HO118.out (fun _ hk => ⟨hk.1.2, hk.2⟩)), (bk_ BK108.out), (bk_ BK109.out), (bk_ BK110.out), (bk_ BK122.out), GW122.out, GE122.out, NB108_122.out, NB122_108.out, NB109_122.out, NB122_109.out, NB110_122.out, NB122_110.out, (be_ HB.out)⟩)
         ·skip
          rintro ⟨v114, v117⟩ w58 ⟨hS_, h0_, h1_, h2_, h3_, h4_, h5_⟩
          have n0_ : Aside0 (Kd.R k33 33 w58 w.heap.size (fun k_ => some k_ ≠ (v117 : Value).ownBlock ∧ k_ ≠ gb110) v114 t113) := ⟨h0_⟩
          have n1_ : Aside0 (Kd.R k33 33 w58 w.heap.size (fun k_ => some k_ ≠ (v114 : Value).ownBlock ∧ k_ ≠ gb110) v117 y116) := ⟨h1_⟩
          have n2_ : Aside0 (w58.heap[gb108]? = some (.cells #[.slice A0_0 l0_0.length c0_0] 26 (0, 0))) := ⟨h2_⟩
          have n3_ : Aside0 (w58.heap[gb109]? = some (.cells #[.slice none 0 0] 26 (0, 0))) := ⟨h3_⟩
          have n4_ : Aside0 (w58.heap[gb110]? = some (.cells #[.int .i64 a1, .int .i64 a2, .int .i64 a3, .bool false] 33 (0, 0))) := ⟨h4_⟩
          have n5_ : Aside0 (Below w.heap.size w w58) := ⟨h5_⟩
          clear BK108
          clear BK109
          clear BK110
          clear HB
          clear h0_ h1_ h2_ h3_ h4_ h5_
          have HO115 := n0_
          have HO118 := n1_
          have BK108 := n2_
          have BK109 := n3_
          have BK110 := n4_
          have HB := n5_
          clear n0_ n1_ n2_ n3_ n4_ n5_
          have hHeld : w58.cell? ⟨gb108, 0, none⟩ = some (.slice A0_0 l0_0.length c0_0) ∧ w58.cell? ⟨gb110, 0, none⟩ = some (.int .i64 a1) ∧ w58.cell? ⟨gb110, 1, none⟩ = some (.int .i64 a2) ∧ w58.cell? ⟨gb110, 2, none⟩ = some (.int .i64 a3) ∧ w58.cell? ⟨gb110, 3, none⟩ = some (.bool false) := hS_
          obtain ⟨Ao60, co60, eo60⟩ := Kd.R_slice HO118.out
          (first | subst eo60 | (injection eo60 with f1_ f2_ f3_; have f4_ := f1_.symm; have f5_ := f3_.symm; clear f1_ f2_ f3_; subst f4_; subst f5_))
          refine norm_ (a' := ?_) ?_ ?_
          rotate_left
          ·simp only [putAll, Act.put, List.setIfInBounds_toArray, List.set_cons_zero, List.set_cons_succ]
           rfl
          refine two_ (i := 5) (j := 7) (Ni := some 30) (Nj := some 11) #[true, true, true, true, true, true, false, false, false] #[true, true, true, true, true, false, false, true, false] rfl rfl rfl rfl (two_of HT_.out (by kernel_rfl)) (by decide) (by decide) (fun K hK => ?_) (fun K hK => ?_)
          ·skip
           refine Kd.R_append_rows_step k33 (w0 := w) w.heap.size (by rfl) (.tmp 27) (.tmp 29) 24 33 (.agg #[(.int .i64 0), (.int .i64 0), (.int .i64 0), (.bool false)]) 32 rfl Try.underlying24 info33 rfl (by decide) (by omega) v114 t113 y116 _ _ _ (fun k_ => some k_ ≠ (.slice Ao60 y116.length co60 : Value).ownBlock ∧ k_ ≠ gb110) (fun _ => False) rfl rfl ?aO ?aR (fun _ _ h => h) (fun _ h => h.elim) ?aF ?aB ?aS ?aL ?_
           (case aR => repeat (first | exact (Kd.R_reads' HO118.out).2.2 | (with_reducible refine Kd.C_alloc ?_ _) | (with_reducible refine Kd.C_drewN ?_ _) | (with_reducible refine Kd.C_drew ?_)))
           (case aB => exact (be_ HB.out))
           (case aF => exact (fun k_ hk => ⟨Kd.fresh' (Kd.R_lt (ro_ HO118.out)) k_ hk, Kd.freshB (g := gb110) (o := .cells #[.int .i64 a1, .int .i64 a2, .int .i64 a3, .bool false] 33 (0, 0)) (bk_ BK110.out) k_ hk⟩))
           (case aO => exact (ro_ HO115.out))
           (case aS => exact (below_size (be_ HB.out)))
           (case aL => have := LMc31.out; omega)
           intro v120 w59 ho hb hg hat
           rw [← Ny119.out] at ho
           have n0_ := am_ (blk_grown (g := gb108) (o := .cells #[.slice A0_0 l0_0.length c0_0] 26 (0, 0)) (bk_ BK108.out) hg (Kd.R_ne HO115.out BK108.out (by decide)))
           have n1_ := am_ (blk_grown (g := gb109) (o := .cells #[.slice none 0 0] 26 (0, 0)) (bk_ BK109.out) hg (Kd.R_ne HO115.out BK109.out (by decide)))
           have n2_ := am_ (blk_grown (g := gb110) (o := .cells #[.int .i64 a1, .int .i64 a2, .int .i64 a3, .bool false] 33 (0, 0)) (bk_ BK110.out) hg (Kd.R_away HO115.out (fun _ hk => hk.2)))
           have n3_ := am_ (Kd.R_after (ok := (fun k_ => k_ ≠ gb110)) (by (with_reducible repeat (first | apply Kd.R_alloc | apply Kd.R_drewN | apply Kd.R_drew)); exact Kd.R_mono HO118.out (fun _ hk => ⟨hk.2, hk.1⟩)) hg hat)
           have n4_ := am_ (hb)
           have n5_ := am_ (ho)
           clear BK108
           clear BK109
           clear BK110
           clear HO118
           clear HB
           clear HO115
           have BK108 := n0_
           have BK109 := n1_
           have BK110 := n2_
           have HO118 := n3_
           have HB := n4_
           have HO121 := n5_
           clear n0_ n1_ n2_ n3_ n4_ n5_
           clear ho hb hg hat
           obtain ⟨Ao61, co61, eo61⟩ := Kd.R_slice HO121.out
           (first | subst eo61 | (injection eo61 with f1_ f2_ f3_; have f4_ := f1_.symm; have f5_ := f3_.symm; clear f1_ f2_ f3_; subst f4_; subst f5_))
           refine hK.out _ _ ⟨(blk_cell BK108.out 0).trans rfl, (blk_cell BK110.out 0).trans rfl, (blk_cell BK110.out 1).trans rfl, (blk_cell BK110.out 2).trans rfl, (blk_cell BK110.out 3).trans rfl⟩ (fun hHeld => ?_)
           clear hK K
           refine norm_ (a' := ?_) ?_ ?_
           rotate_left
           ·show Act.put _ (some 30) _ = _
            simp only [Act.put, List.setIfInBounds_toArray, List.set_cons_zero, List.set_cons_succ, i64_w, i32_w]
            rfl
           refine pure_ (i := 6) (N := some 31) (v := ?_) (a' := ?_) #[true, true, true, true, true, true, true, false, false] rfl rfl (any_of HT_.out (by kernel_rfl)) (fun _ _ _ h => h) (Or.inl ⟨by rfl, ?_⟩) ?_ ?_
           rotate_left
           ·intro w'
            go_simp
            with_reducible rfl
           rotate_left
           ·simp only [Act.put, List.setIfInBounds_toArray, List.set_cons_zero, List.set_cons_succ, i64_w, i32_w]
            rfl
           exact norm_ pu_ (hJ2_4_5 (v114, .slice Ao60 y116.length co60, .slice Ao61 y119.length co61) _ ⟨hHeld, (by (with_reducible repeat (first | apply Kd.R_alloc | apply Kd.R_drewN | apply Kd.R_drew)); exact Kd.R_mono HO118.out (fun _ hk => ⟨hk.2, hk.1⟩)), (ro_ HO121.out), (bk_ BK108.out), (bk_ BK109.out), (bk_ BK110.out), (be_ HB.out)⟩)
          ·skip
           refine box_step ?hg (N := 11) ?hd (cs := #[.slice none 0 0]) (t := 26) ?hr ?_; (case hd => rfl); (case hg => rfl); (case hr => first | (go_simp; done) | (go_simp; rfl))
           intro gb122 hg w59 hbox hb
           have n0_ := am_ (Kd.R_below (ro_ HO115.out) hb)
           have n1_ := am_ (Kd.R_below (ro_ HO118.out) hb)
           have n2_ := am_ (bb_ BK108.out hb)
           have n3_ := am_ (bb_ BK109.out hb)
           have n4_ := am_ (bb_ BK110.out hb)
           have n5_ := am_ (below_step (be_ HB.out) hb)
           have n6_ := am_ (hbox)
           have n7_ := am_ ((by rw [hg]; exact (below_size (be_ HB.out)) : w.heap.size ≤ gb122))
           have n8_ := am_ ((by rw [hg]; exact (below_size (be_ HB.out)) : w.heap.size ≤ gb122))
           have n9_ := am_ ((by rw [hg]; exact Nat.ne_of_lt (bl_ BK108.out) : gb108 ≠ gb122))
           have n10_ := am_ ((by rw [hg]; exact Nat.ne_of_gt (bl_ BK108.out) : gb122 ≠ gb108))
           have n11_ := am_ ((by rw [hg]; exact Nat.ne_of_lt (bl_ BK109.out) : gb109 ≠ gb122))
           have n12_ := am_ ((by rw [hg]; exact Nat.ne_of_gt (bl_ BK109.out) : gb122 ≠ gb109))
           have n13_ := am_ ((by rw [hg]; exact Nat.ne_of_lt (bl_ BK110.out) : gb110 ≠ gb122))
           have n14_ := am_ ((by rw [hg]; exact Nat.ne_of_gt (bl_ BK110.out) : gb122 ≠ gb110))
           clear HO115
           clear HO118
           clear BK108
           clear BK109
           clear BK110
           clear HB
           have HO115 := n0_
           have HO118 := n1_
           have BK108 := n2_
           have BK109 := n3_
           have BK110 := n4_
           have HB := n5_
           have BK122 := n6_
           have GW122 := n7_
           have GE122 := n8_
           have NB108_122 := n9_
           have NB122_108 := n10_
           have NB109_122 := n11_
           have NB122_109 := n12_
           have NB110_122 := n13_
           have NB122_110 := n14_
           clear n0_ n1_ n2_ n3_ n4_ n5_ n6_ n7_ n8_ n9_ n10_ n11_ n12_ n13_ n14_
           clear hb hbox hg
           refine hK.out _ _ ⟨(blk_cell BK108.out 0).trans rfl, (blk_cell BK110.out 0).trans rfl, (blk_cell BK110.out 1).trans rfl, (blk_cell BK110.out 2).trans rfl, (blk_cell BK110.out 3).trans rfl⟩ (fun hHeld => ?_)
           clear hK K
           refine norm_ (a' := ?_) ?_ ?_
           rotate_left
           ·show Act.put _ (some 11) _ = _
            simp only [Act.put, List.setIfInBounds_toArray, List.set_cons_zero, List.set_cons_succ, i64_w, i32_w]
            rfl
           exact norm_ pu_ (hJ2_4_7 (v114, .slice Ao60 y116.length co60, gb122) _ ⟨hHeld, (ro_ HO115.out), (ro_ HO118.out), (bk_ BK108.out), (bk_ BK109.out), (bk_ BK110.out), (bk_ BK122.out), GW122.out, GE122.out, NB108_122.out, NB122_108.out, NB109_122.out, NB122_109.out, NB110_122.out, NB122_110.out, (be_ HB.out)⟩)
        ·skip
         rintro ⟨v114, v117, gb122⟩ w59 ⟨hS_, h0_, h1_, h2_, h3_, h4_, h5_, h6_, h7_, h8_, h9_, h10_, h11_, h12_, h13_, h14_⟩
         have n0_ : Aside0 (Kd.R k33 33 w59 w.heap.size (fun k_ => some k_ ≠ (v117 : Value).ownBlock ∧ k_ ≠ gb110) v114 t113) := ⟨h0_⟩
         have n1_ : Aside0 (Kd.R k33 33 w59 w.heap.size (fun k_ => some k_ ≠ (v114 : Value).ownBlock ∧ k_ ≠ gb110) v117 y116) := ⟨h1_⟩
         have n2_ : Aside0 (w59.heap[gb108]? = some (.cells #[.slice A0_0 l0_0.length c0_0] 26 (0, 0))) := ⟨h2_⟩
         have n3_ : Aside0 (w59.heap[gb109]? = some (.cells #[.slice none 0 0] 26 (0, 0))) := ⟨h3_⟩
         have n4_ : Aside0 (w59.heap[gb110]? = some (.cells #[.int .i64 a1, .int .i64 a2, .int .i64 a3, .bool false] 33 (0, 0))) := ⟨h4_⟩
         have n5_ : Aside0 (w59.heap[gb122]? = some (.cells #[.slice none 0 0] 26 (0, 0))) := ⟨h5_⟩
         have n6_ : Aside0 (w.heap.size ≤ gb122) := ⟨h6_⟩
         have n7_ : Aside0 (w.heap.size ≤ gb122) := ⟨h7_⟩
         have n8_ : Aside0 (gb108 ≠ gb122) := ⟨h8_⟩
         have n9_ : Aside0 (gb122 ≠ gb108) := ⟨h9_⟩
         have n10_ : Aside0 (gb109 ≠ gb122) := ⟨h10_⟩
         have n11_ : Aside0 (gb122 ≠ gb109) := ⟨h11_⟩
         have n12_ : Aside0 (gb110 ≠ gb122) := ⟨h12_⟩
         have n13_ : Aside0 (gb122 ≠ gb110) := ⟨h13_⟩
         have n14_ : Aside0 (Below w.heap.size w w59) := ⟨h14_⟩
         clear BK108
         clear BK109
         clear BK110
         clear HB
         clear h0_ h1_ h2_ h3_ h4_ h5_ h6_ h7_ h8_ h9_ h10_ h11_ h12_ h13_ h14_
         have HO115 := n0_
         have HO118 := n1_
         have BK108 := n2_
         have BK109 := n3_
         have BK110 := n4_
         have BK122 := n5_
         have GW122 := n6_
         have GE122 := n7_
         have NB108_122 := n8_
         have NB122_108 := n9_
         have NB109_122 := n10_
         have NB122_109 := n11_
         have NB110_122 := n12_
         have NB122_110 := n13_
         have HB := n14_
         clear n0_ n1_ n2_ n3_ n4_ n5_ n6_ n7_ n8_ n9_ n10_ n11_ n12_ n13_ n14_
         have hHeld : w59.cell? ⟨gb108, 0, none⟩ = some (.slice A0_0 l0_0.length c0_0) ∧ w59.cell? ⟨gb110, 0, none⟩ = some (.int .i64 a1) ∧ w59.cell? ⟨gb110, 1, none⟩ = some (.int .i64 a2) ∧ w59.cell? ⟨gb110, 2, none⟩ = some (.int .i64 a3) ∧ w59.cell? ⟨gb110, 3, none⟩ = some (.bool false) := hS_
         obtain ⟨Ao61, co61, eo61⟩ := Kd.R_slice HO118.out
         (first | subst eo61 | (injection eo61 with f1_ f2_ f3_; have f4_ := f1_.symm; have f5_ := f3_.symm; clear f1_ f2_ f3_; subst f4_; subst f5_))
         refine norm_ (a' := ?_) ?_ ?_
         rotate_left
         ·simp only [putAll, Act.put, List.setIfInBounds_toArray, List.set_cons_zero, List.set_cons_succ]
          rfl
         refine one_ (i := 5) (N := some 30) #[true, true, true, true, true, true, false, true, false] rfl rfl (one_of HT_.out (by kernel_rfl)) (by decide) (fun K hK => ?_)
         refine Kd.R_append_rows_step k33 (w0 := w) w.heap.size (by rfl) (.tmp 27) (.tmp 29) 24 33 (.agg #[(.int .i64 0), (.int .i64 0), (.int .i64 0), (.bool false)]) 32 rfl Try.underlying24 info33 rfl (by decide) (by omega) v114 t113 y116 _ _ _ (fun k_ => some k_ ≠ (.slice Ao61 y116.length co61 : Value).ownBlock ∧ k_ ≠ gb110) (fun _ => False) rfl rfl ?aO ?aR (fun _ _ h => h) (fun _ h => h.elim) ?aF ?aB ?aS ?aL ?_
         (case aR => repeat (first | exact (Kd.R_reads' HO118.out).2.2 | (with_reducible refine Kd.C_alloc ?_ _) | (with_reducible refine Kd.C_drewN ?_ _) | (with_reducible refine Kd.C_drew ?_)))
         (case aB => exact (be_ HB.out))
         (case aF => exact (fun k_ hk => ⟨Kd.fresh' (Kd.R_lt (ro_ HO118.out)) k_ hk, Kd.freshB (g := gb110) (o := .cells #[.int .i64 a1, .int .i64 a2, .int .i64 a3, .bool false] 33 (0, 0)) (bk_ BK110.out) k_ hk⟩))
         (case aO => exact (ro_ HO115.out))
         (case aS => exact (below_size (be_ HB.out)))
         (case aL => have := LMc31.out; omega)
         intro v120 w60 ho hb hg hat
         rw [← Ny119.out] at ho
         have n0_ := am_ (blk_grown (g := gb108) (o := .cells #[.slice A0_0 l0_0.length c0_0] 26 (0, 0)) (bk_ BK108.out) hg (Kd.R_ne HO115.out BK108.out (by decide)))
         have n1_ := am_ (blk_grown (g := gb109) (o := .cells #[.slice none 0 0] 26 (0, 0)) (bk_ BK109.out) hg (Kd.R_ne HO115.out BK109.out (by decide)))
         have n2_ := am_ (blk_grown (g := gb110) (o := .cells #[.int .i64 a1, .int .i64 a2, .int .i64 a3, .bool false] 33 (0, 0)) (bk_ BK110.out) hg (Kd.R_away HO115.out (fun _ hk => hk.2)))
         have n3_ := am_ (Kd.R_after (ok := (fun k_ => k_ ≠ gb110)) (by (with_reducible repeat (first | apply Kd.R_alloc | apply Kd.R_drewN | apply Kd.R_drew)); exact Kd.R_mono HO118.out (fun _ hk => ⟨hk.2, hk.1⟩)) hg hat)
         have n4_ := am_ (blk_grown (g := gb122) (o := .cells #[.slice none 0 0] 26 (0, 0)) (bk_ BK122.out) hg (Kd.R_ne HO115.out BK122.out (by decide)))
         have n5_ := am_ (hb)
         have n6_ := am_ (ho)
         clear BK108
         clear BK109
         clear BK110
         clear HO118
         clear BK122
         clear HB
         clear HO115
         have BK108 := n0_
         have BK109 := n1_
         have BK110 := n2_
         have HO118 := n3_
         have BK122 := n4_
         have HB := n5_
         have HO121 := n6_
         clear n0_ n1_ n2_ n3_ n4_ n5_ n6_
         clear ho hb hg hat
         obtain ⟨Ao62, co62, eo62⟩ := Kd.R_slice HO121.out
         (first | subst eo62 | (injection eo62 with f1_ f2_ f3_; have f4_ := f1_.symm; have f5_ := f3_.symm; clear f1_ f2_ f3_; subst f4_; subst f5_))
         refine hK.out _ _ ⟨(blk_cell BK108.out 0).trans rfl, (blk_cell BK110.out 0).trans rfl, (blk_cell BK110.out 1).trans rfl, (blk_cell BK110.out 2).trans rfl, (blk_cell BK110.out 3).trans rfl⟩ (fun hHeld => ?_)
         clear hK K
         refine norm_ (a' := ?_) ?_ ?_
         rotate_left
         ·show Act.put _ (some 30) _ = _
          simp only [Act.put, List.setIfInBounds_toArray, List.set_cons_zero, List.set_cons_succ, i64_w, i32_w]
          rfl
         refine pure_ (i := 6) (N := some 31) (v := ?_) (a' := ?_) #[true, true, true, true, true, true, true, true, false] rfl rfl (any_of HT_.out (by kernel_rfl)) (fun _ _ _ h => h) (Or.inl ⟨by rfl, ?_⟩) ?_ ?_
         rotate_left
         ·intro w'
          go_simp
          with_reducible rfl
         rotate_left
         ·simp only [Act.put, List.setIfInBounds_toArray, List.set_cons_zero, List.set_cons_succ, i64_w, i32_w]
          rfl
         exact norm_ pu_ (hJ2_4_5_7 (v114, .slice Ao61 y116.length co61, .slice Ao62 y119.length co62, gb122) _ ⟨hHeld, (by (with_reducible repeat (first | apply Kd.R_alloc | apply Kd.R_drewN | apply Kd.R_drew)); exact Kd.R_mono HO118.out (fun _ hk => ⟨hk.2, hk.1⟩)), (ro_ HO121.out), (bk_ BK108.out), (bk_ BK109.out), (bk_ BK110.out), (bk_ BK122.out), GW122.out, GE122.out, NB108_122.out, NB122_108.out, NB109_122.out, NB122_109.out, NB110_122.out, NB122_110.out, (be_ HB.out)⟩)
       ·skip
        rintro ⟨v114, v117, v120⟩ w61 ⟨hS_, h0_, h1_, h2_, h3_, h4_, h5_⟩
        have n0_ : Aside0 (Kd.R k33 33 w61 w.heap.size (fun k_ => some k_ ≠ (v120 : Value).ownBlock ∧ k_ ≠ gb110) v117 y116) := ⟨h0_⟩
        have n1_ : Aside0 (Kd.R k33 33 w61 w.heap.size (fun k_ => some k_ ≠ (v117 : Value).ownBlock ∧ k_ ≠ gb110) v120 y119) := ⟨h1_⟩
        have n2_ : Aside0 (w61.heap[gb108]? = some (.cells #[.slice A0_0 l0_0.length c0_0] 26 (0, 0))) := ⟨h2_⟩
        have n3_ : Aside0 (w61.heap[gb109]? = some (.cells #[.slice none 0 0] 26 (0, 0))) := ⟨h3_⟩
        have n4_ : Aside0 (w61.heap[gb110]? = some (.cells #[.int .i64 a1, .int .i64 a2, .int .i64 a3, .bool false] 33 (0, 0))) := ⟨h4_⟩
        have n5_ : Aside0 (Below w.heap.size w w61) := ⟨h5_⟩
        clear BK108
        clear BK109
        clear BK110
        clear HB
        clear h0_ h1_ h2_ h3_ h4_ h5_
        have HO118 := n0_
        have HO121 := n1_
        have BK108 := n2_
        have BK109 := n3_
        have BK110 := n4_
        have HB := n5_
        clear n0_ n1_ n2_ n3_ n4_ n5_
        have hHeld : w61.cell? ⟨gb108, 0, none⟩ = some (.slice A0_0 l0_0.length c0_0) ∧ w61.cell? ⟨gb110, 0, none⟩ = some (.int .i64 a1) ∧ w61.cell? ⟨gb110, 1, none⟩ = some (.int .i64 a2) ∧ w61.cell? ⟨gb110, 2, none⟩ = some (.int .i64 a3) ∧ w61.cell? ⟨gb110, 3, none⟩ = some (.bool false) := hS_
        obtain ⟨Ao62, co62, eo62⟩ := Kd.R_slice HO121.out
        (first | subst eo62 | (injection eo62 with f1_ f2_ f3_; have f4_ := f1_.symm; have f5_ := f3_.symm; clear f1_ f2_ f3_; subst f4_; subst f5_))
        refine norm_ (a' := ?_) ?_ ?_
        rotate_left
        ·simp only [putAll, Act.put, List.setIfInBounds_toArray, List.set_cons_zero, List.set_cons_succ]
         rfl
        refine one_ (i := 7) (N := some 11) #[true, true, true, true, true, true, true, true, false] rfl rfl (one_of HT_.out (by kernel_rfl)) (by decide) (fun K hK => ?_)
        refine box_step ?hg (N := 11) ?hd (cs := #[.slice none 0 0]) (t := 26) ?hr ?_; (case hd => rfl); (case hg => rfl); (case hr => first | (go_simp; done) | (go_simp; rfl))
        intro gb122 hg w63 hbox hb
        have n0_ := am_ (Kd.R_below (ro_ HO118.out) hb)
        have n1_ := am_ (Kd.R_below (ro_ HO121.out) hb)
        have n2_ := am_ (bb_ BK108.out hb)
        have n3_ := am_ (bb_ BK109.out hb)
        have n4_ := am_ (bb_ BK110.out hb)
        have n5_ := am_ (below_step (be_ HB.out) hb)
        have n6_ := am_ (hbox)
        have n7_ := am_ ((by rw [hg]; exact (below_size (be_ HB.out)) : w.heap.size ≤ gb122))
        have n8_ := am_ ((by rw [hg]; exact (below_size (be_ HB.out)) : w.heap.size ≤ gb122))
        have n9_ := am_ ((by rw [hg]; exact Nat.ne_of_lt (bl_ BK108.out) : gb108 ≠ gb122))
        have n10_ := am_ ((by rw [hg]; exact Nat.ne_of_gt (bl_ BK108.out) : gb122 ≠ gb108))
        have n11_ := am_ ((by rw [hg]; exact Nat.ne_of_lt (bl_ BK109.out) : gb109 ≠ gb122))
        have n12_ := am_ ((by rw [hg]; exact Nat.ne_of_gt (bl_ BK109.out) : gb122 ≠ gb109))
        have n13_ := am_ ((by rw [hg]; exact Nat.ne_of_lt (bl_ BK110.out) : gb110 ≠ gb122))
        have n14_ := am_ ((by rw [hg]; exact Nat.ne_of_gt (bl_ BK110.out) : gb122 ≠ gb110))
        clear HO118
        clear HO121
        clear BK108
        clear BK109
        clear BK110
        clear HB
        have HO118 := n0_
        have HO121 := n1_
        have BK108 := n2_
        have BK109 := n3_
        have BK110 := n4_
        have HB := n5_
        have BK122 := n6_
        have GW122 := n7_
        have GE122 := n8_
        have NB108_122 := n9_
        have NB122_108 := n10_
        have NB109_122 := n11_
        have NB122_109 := n12_
        have NB110_122 := n13_
        have NB122_110 := n14_
        clear n0_ n1_ n2_ n3_ n4_ n5_ n6_ n7_ n8_ n9_ n10_ n11_ n12_ n13_ n14_
        clear hb hbox hg
        refine hK.out _ _ ⟨(blk_cell BK108.out 0).trans rfl, (blk_cell BK110.out 0).trans rfl, (blk_cell BK110.out 1).trans rfl, (blk_cell BK110.out 2).trans rfl, (blk_cell BK110.out 3).trans rfl⟩ (fun hHeld => ?_)
        clear hK K
        refine norm_ (a' := ?_) ?_ ?_
        rotate_left
        ·show Act.put _ (some 11) _ = _
         simp only [Act.put, List.setIfInBounds_toArray, List.set_cons_zero, List.set_cons_succ, i64_w, i32_w]
         rfl
        exact norm_ pu_ (hJ2_4_5_7 (v114, v117, .slice Ao62 y119.length co62, gb122) _ ⟨hHeld, (ro_ HO118.out), (ro_ HO121.out), (bk_ BK108.out), (bk_ BK109.out), (bk_ BK110.out), (bk_ BK122.out), GW122.out, GE122.out, NB108_122.out, NB122_108.out, NB109_122.out, NB122_109.out, NB110_122.out, NB122_110.out, (be_ HB.out)⟩)
      rintro ⟨v114, v117, v120, gb122⟩ w62 ⟨hS_, h0_, h1_, h2_, h3_, h4_, h5_, h6_, h7_, h8_, h9_, h10_, h11_, h12_, h13_, h14_⟩
      have n0_ : Aside0 (Kd.R k33 33 w62 w.heap.size (fun k_ => some k_ ≠ (v120 : Value).ownBlock ∧ k_ ≠ gb110) v117 y116) := ⟨h0_⟩
      have n1_ : Aside0 (Kd.R k33 33 w62 w.heap.size (fun k_ => some k_ ≠ (v117 : Value).ownBlock ∧ k_ ≠ gb110) v120 y119) := ⟨h1_⟩
      have n2_ : Aside0 (w62.heap[gb108]? = some (.cells #[.slice A0_0 l0_0.length c0_0] 26 (0, 0))) := ⟨h2_⟩
      have n3_ : Aside0 (w62.heap[gb109]? = some (.cells #[.slice none 0 0] 26 (0, 0))) := ⟨h3_⟩
      have n4_ : Aside0 (w62.heap[gb110]? = some (.cells #[.int .i64 a1, .int .i64 a2, .int .i64 a3, .bool false] 33 (0, 0))) := ⟨h4_⟩
      have n5_ : Aside0 (w62.heap[gb122]? = some (.cells #[.slice none 0 0] 26 (0, 0))) := ⟨h5_⟩
      have n6_ : Aside0 (w.heap.size ≤ gb122) := ⟨h6_⟩
      have n7_ : Aside0 (w.heap.size ≤ gb122) := ⟨h7_⟩
      have n8_ : Aside0 (gb108 ≠ gb122) := ⟨h8_⟩
      have n9_ : Aside0 (gb122 ≠ gb108) := ⟨h9_⟩
      have n10_ : Aside0 (gb109 ≠ gb122) := ⟨h10_⟩
      have n11_ : Aside0 (gb122 ≠ gb109) := ⟨h11_⟩
      have n12_ : Aside0 (gb110 ≠ gb122) := ⟨h12_⟩
      have n13_ : Aside0 (gb122 ≠ gb110) := ⟨h13_⟩
      have n14_ : Aside0 (Below w.heap.size w w62) := ⟨h14_⟩
      clear BK108
      clear BK109
      clear BK110
      clear HB
      clear h0_ h1_ h2_ h3_ h4_ h5_ h6_ h7_ h8_ h9_ h10_ h11_ h12_ h13_ h14_
      have HO118 := n0_
      have HO121 := n1_
      have BK108 := n2_
      have BK109 := n3_
      have BK110 := n4_
      have BK122 := n5_
      have GW122 := n6_
      have GE122 := n7_
      have NB108_122 := n8_
      have NB122_108 := n9_
      have NB109_122 := n10_
      have NB122_109 := n11_
      have NB110_122 := n12_
      have NB122_110 := n13_
      have HB := n14_
      clear n0_ n1_ n2_ n3_ n4_ n5_ n6_ n7_ n8_ n9_ n10_ n11_ n12_ n13_ n14_
      have hHeld : w62.cell? ⟨gb108, 0, none⟩ = some (.slice A0_0 l0_0.length c0_0) ∧ w62.cell? ⟨gb110, 0, none⟩ = some (.int .i64 a1) ∧ w62.cell? ⟨gb110, 1, none⟩ = some (.int .i64 a2) ∧ w62.cell? ⟨gb110, 2, none⟩ = some (.int .i64 a3) ∧ w62.cell? ⟨gb110, 3, none⟩ = some (.bool false) := hS_
      obtain ⟨Ao63, co63, eo63⟩ := Kd.R_slice HO121.out
      (first | subst eo63 | (injection eo63 with f1_ f2_ f3_; have f4_ := f1_.symm; have f5_ := f3_.symm; clear f1_ f2_ f3_; subst f4_; subst f5_))
      refine norm_ (a' := ?_) ?_ ?_
      rotate_left
      ·simp only [putAll, Act.put, List.setIfInBounds_toArray, List.set_cons_zero, List.set_cons_succ]
       rfl
      refine one_ (i := 8) (N := none) #[true, true, true, true, true, true, true, true, true] rfl rfl (one_of HT_.out (by kernel_rfl)) (by decide) (fun K hK => ?_)
      have hs64 : w62.cell? ⟨gb122, 0, none⟩ = some (.slice none 0 0) := (blk_cell BK122.out 0).trans rfl
      have hfs64 := blk_frozen BK122.out 0
      have hns64_0 := NB108_122.out
      have hns64_1 := NB109_122.out
      have hns64_2 := NB110_122.out
      have hms64_0 := NB122_108.out
      have hms64_1 := NB122_109.out
      have hms64_2 := NB122_110.out
      refine skip_ (w1 := ?_) (by rfl) rfl ?_ ?_
      rotate_left
      ·go_simp
       rfl
      refine hK.out _ _ ⟨((cell_far (p := ⟨gb122, _, none⟩) NB108_122.out _).trans (hHeld.1)), ((cell_far (p := ⟨gb122, _, none⟩) NB110_122.out _).trans (hHeld.2.1)), ((cell_far (p := ⟨gb122, _, none⟩) NB110_122.out _).trans (hHeld.2.2.1)), ((cell_far (p := ⟨gb122, _, none⟩) NB110_122.out _).trans (hHeld.2.2.2.1)), ((cell_far (p := ⟨gb122, _, none⟩) NB110_122.out _).trans (hHeld.2.2.2.2))⟩ (fun hHeld => ?_)
      clear hK K
      refine done_ (done_of HT_.out (by kernel_rfl)) ?_
      have hnb65 := NB122_108.out
      have hnc65 := NB108_122.out
      have hnb66 := NB122_109.out
      have hnc66 := NB109_122.out
      have hnb67 := NB122_110.out
      have hnc67 := NB110_122.out
      have hcz68_0 : w62.cell? ⟨gb122, 0, none⟩ = some (.slice none 0 0) := (blk_cell BK122.out 0).trans rfl
      have hfz68_0 := blk_frozen BK122.out 0
      try go_wp2_with (first | ((with_reducible refine gate_callee (f := 15) rfl ?_); refine goesL_ (some 33) rfl rfl Try.func15 (by kernel_rfl) rfl #[.agg #[.slice Ao63 y119.length co63]] rfl ma_ ?_; (with_reducible refine (oplist_Sane.calls _ _ y119 false _ ?side1 ?side2 A32.out).mono ?_); (case side1 => refine (Kd.R_reads' (e := 33) (base := w.heap.size) (ok := fun k_ => (some k_ ≠ (v117 : Value).ownBlock ∧ k_ ≠ gb110)) (n := y119.length) (c := co63) ?_).2.2; exact (by (with_reducible repeat (first | apply Kd.R_alloc | apply Kd.R_drewN | apply Kd.R_drew)); exact (Kd.R_mono (Kd.R_far (p := ⟨gb122, 0, none⟩) (Kd.R_types HO121.out BK122.out (by decide)) (fun _ hk => hk.2) (.slice Ao63 y119.length co63)) (fun _ h_ => h_.1)))); (case side2 => exact (Kd.R_reads' HO121.out).2.1); rintro e w69 ⟨rfl, hb⟩; refine ⟨_, rfl, ?_⟩; have n0_ := am_ (Kd.R_below (by (with_reducible repeat (first | apply Kd.R_alloc | apply Kd.R_drewN | apply Kd.R_drew)); exact (Kd.R_mono (Kd.R_far (p := ⟨gb122, 0, none⟩) (Kd.R_types HO118.out BK122.out (by decide)) (fun _ hk => hk.2) (.slice Ao63 y119.length co63)) (fun _ h_ => h_.1))) hb); have n1_ := am_ (Kd.R_below (by (with_reducible repeat (first | apply Kd.R_alloc | apply Kd.R_drewN | apply Kd.R_drew)); exact (Kd.R_mono (Kd.R_far (p := ⟨gb122, 0, none⟩) (Kd.R_types HO121.out BK122.out (by decide)) (fun _ hk => hk.2) (.slice Ao63 y119.length co63)) (fun _ h_ => h_.1))) hb); have n2_ := am_ (blk_below (g := gb108) (o := .cells #[.slice A0_0 l0_0.length c0_0] 26 (0, 0)) (by (with_reducible repeat (first | refine blk_drewN ?_ _ | refine blk_drew ?_ | refine blk_alloc ?_ _)); refine blk_far ?_ NB108_122.out _; (with_reducible repeat (first | refine blk_drewN ?_ _ | refine blk_drew ?_ | refine blk_alloc ?_ _)); exact BK108.out) hb); have n3_ := am_ (blk_below (g := gb109) (o := .cells #[.slice none 0 0] 26 (0, 0)) (by (with_reducible repeat (first | refine blk_drewN ?_ _ | refine blk_drew ?_ | refine blk_alloc ?_ _)); refine blk_far ?_ NB109_122.out _; (with_reducible repeat (first | refine blk_drewN ?_ _ | refine blk_drew ?_ | refine blk_alloc ?_ _)); exact BK109.out) hb); have n4_ := am_ (blk_below (g := gb110) (o := .cells #[.int .i64 a1, .int .i64 a2, .int .i64 a3, .bool false] 33 (0, 0)) (by (with_reducible repeat (first | refine blk_drewN ?_ _ | refine blk_drew ?_ | refine blk_alloc ?_ _)); refine blk_far ?_ NB110_122.out _; (with_reducible repeat (first | refine blk_drewN ?_ _ | refine blk_drew ?_ | refine blk_alloc ?_ _)); exact BK110.out) hb); have n5_ := am_ (blk_below (g := gb122) (o := .cells #[.slice Ao63 y119.length co63] 26 (0, 0)) (by (with_reducible repeat (first | refine blk_drewN ?_ _ | refine blk_drew ?_ | refine blk_alloc ?_ _)); refine blk_put (cs := #[.slice none 0 0]) ?_ 0 _ rfl; (with_reducible repeat (first | refine blk_drewN ?_ _ | refine blk_drew ?_ | refine blk_alloc ?_ _)); exact BK122.out) hb); have n6_ := am_ (below_step (be_ HB.out) hb); clear HO118; clear HO121; clear BK108; clear BK109; clear BK110; clear BK122; clear HB; have HO118 := n0_; have HO121 := n1_; have BK108 := n2_; have BK109 := n3_; have BK110 := n4_; have BK122 := n5_; have HB := n6_; clear n0_ n1_ n2_ n3_ n4_ n5_ n6_; (try clear hb); (try clear hb2); (try clear hk); (try clear hi); have hnb70 := NB109_108.out; have hnc70 := NB108_109.out; have hnb71 := NB109_110.out; have hnc71 := NB110_109.out; have hcz72_0 : w69.cell? ⟨gb109, 0, none⟩ = some (.slice none 0 0) := (blk_cell BK109.out 0).trans rfl; have hfz72_0 := blk_frozen BK109.out 0))
      refine bodyPost_ret (results_ct rfl _ _ gb109 26 #[.slice none 0 0] (0, 0) _ rfl (by (with_reducible repeat (first | refine blk_drewN ?_ _ | refine blk_drew ?_ | refine blk_alloc ?_ _)); refine blk_put (cs := #[.slice none 0 0]) ?_ 0 _ rfl; (with_reducible repeat (first | refine blk_drewN ?_ _ | refine blk_drew ?_ | refine blk_alloc ?_ _)); exact BK109.out) Try.underlying26 rfl (by kernel_rfl)) rfl ?_
      exact ⟨_, by first | rfl | (simp [errW_none, errW_some] <;> rfl) | (simp [*, errW_none, errW_some] <;> rfl), by first | exact Kd.R_nil _ _ _ _ _ | exact Kd.N_nil _ _ _ _ _ | exact Kd.V_nil _ _ _ _ _ | exact Kd.Q_nil _ _ _ _ _ | exact Kd.S_nil _ _ _ _ _, be_ HB.out⟩
    ·rw [if_neg c31] at H
     exact absurd H (by simp)

end Go.Proofs.Ytjpoepiidmoegaa.Q
