-- Cut to what one claim reaches, out of what the kit's print laid for this seat (wip/tools/trim.py).
import Derived.Test.YtjpoepiidmoegaaQ0
import Derived.Test.YtjpoepiidmoegaaQ5
import Derived.Test.YtjpoepiidmoegaaOE
import Derived.Test.YtjpoepiidmoegaaOP
import Derived.Test.YtjpoepiidmoegaaTB
import Derived.Test.YtjpoepiidmoegaaTV
import Derived.Test.YtjpoepiidmoegaaQA
namespace Go.Proofs.Ytjpoepiidmoegaa.Q
open Go.RowKit Go.Proofs.YtjpoepiidmoegaaW.PrintWords Go.Proofs.YtjpoepiidmoegaaW.PrintLast Go.Proofs.YtjpoepiidmoegaaW.PrintMore
attribute [local go_sem] max2_int min2_int max_two min_two max_three min_three max_four min_four   -- for this text's walks alone
set_option linter.unusedVariables false
set_option linter.unusedSimpArgs false

mutual
def heronrylaw15_OplistOps.l0 : Nat → Bool → Int → Int → List (S33) → List (S95) → Int → Option (Bool)
 | 0, _, _, _, _, _, _ => none
 | k + 1, x5, x8, x9, x294000, x295000, x295001 => if x9 < x8 then ((tree_Begin.f k x295000 x295001 (wrap64 ((Go.bits .and .i64 x9 1) - 1))).bind fun bt295 => (if bt295.2.2.2 = 0 then (heronrylaw15_OplistOps.l0 k x5 x8 (wrap64 (x9 + 1)) x294000 bt295.1 bt295.2.1) else (none))) else ((oplist_Ops.f x294000 x295000 x295001 0).bind fun t302 => (heronrylaw15_OplistOps.l1 k x5 x8 t302 0 0 x294000 x295000 x295001))
def heronrylaw15_OplistOps.l1 : Nat → Bool → Int → List (S55) → Int → Int → List (S33) → List (S95) → Int → Option (Bool)
 | 0, _, _, _, _, _, _, _, _ => none
 | k + 1, x5, x8, x13, x14, x15, x294000, x295000, x295001 => if x15 < x8 then ((oplist_Open.f x294000 x15).bind fun t305 => ((tree_Within.f x295000 x295001 x15 0).bind fun t308 => (if t308 = true then (heronrylaw15_OplistOps.l1 k x5 x8 x13 (wrap64 (x14 + (t305.length : Int))) (wrap64 (x15 + 1)) x294000 x295000 x295001) else (heronrylaw15_OplistOps.l1 k x5 x8 x13 x14 (wrap64 (x15 + 1)) x294000 x295000 x295001)))) else ((oplist_Ops.f x294000 x295000 x295001 (wrap64 (x8 - 1))).bind fun t309 => ((oplist_Open.f x294000 (wrap64 (x8 - 1))).bind fun t312 => (if x8 > 1 then (if (t309.length : Int) = (t312.length : Int) then (heronrylaw15_OplistOps.j2 k x5 x8 t309 t312 ((x13.length : Int) != x14) x294000 x295000 x295001) else (none)) else (heronrylaw15_OplistOps.j2 k x5 x8 t309 t312 ((x13.length : Int) != x14) x294000 x295000 x295001))))
def heronrylaw15_OplistOps.j2 : Nat → Bool → Int → List (S55) → List (S33) → Bool → List (S33) → List (S95) → Int → Option (Bool)
 | 0, _, _, _, _, _, _, _, _ => none
 | k + 1, x5, x8, x17, x18, x89, x294000, x295000, x295001 => if x89 = true then (none) else (heronrylaw15_OplistOps.l2 k x5 x8 x17 x18 0 x294000 x295000 x295001)
def heronrylaw15_OplistOps.l2 : Nat → Bool → Int → List (S55) → List (S33) → Int → List (S33) → List (S95) → Int → Option (Bool)
 | 0, _, _, _, _, _, _, _, _ => none
 | k + 1, x5, x8, x17, x18, x19, x294000, x295000, x295001 => if x8 > 1 then (heronrylaw15_OplistOps.j4 k x5 x8 x17 x18 x19 (decide (x19 < (x18.length : Int))) x294000 x295000 x295001) else (heronrylaw15_OplistOps.j4 k x5 x8 x17 x18 x19 false x294000 x295000 x295001)
def heronrylaw15_OplistOps.j4 : Nat → Bool → Int → List (S55) → List (S33) → Int → Bool → List (S33) → List (S95) → Int → Option (Bool)
 | 0, _, _, _, _, _, _, _, _, _ => none
 | k + 1, x5, x8, x17, x18, x19, x97, x294000, x295000, x295001 => if x97 = true then (if 0 ≤ x19 then (if x19 < (x17.length : Int) then (if x19 < (x18.length : Int) then (if ((rd_T55 x17 x19).f0) = ((rd_T33 x18 x19).f1) then (if ((rd_T55 x17 x19).f1) = ((rd_T33 x18 x19).f2) then (heronrylaw15_OplistOps.l2 k x5 x8 x17 x18 (wrap64 (x19 + 1)) x294000 x295000 x295001) else (none)) else (none)) else (none)) else (none)) else (none)) else (if x5 = true then ((oplist_Ops.f x294000 x295000 x295001 (-1)).bind fun t319 => (some ((t319.length : Int) == 0))) else (none))
end
def heronrylaw15_OplistOps.f (k : Nat) (l0 : List (S74)) (a1 : Int) : Option (Bool) := (heronrylaw15_awake.f k).bind fun t289 => (if (l0.length : Int) > 200 then (some t289) else ((heronrylaw15_grown.f k l0).bind fun t290 => (heronrylaw15_OplistOps.l0 k t289 (wrap64 (1 + (Go.bits .and .i64 a1 7))) 0 t290 ([] : List (S95)) 0)))
set_option maxHeartbeats 8000000 in
set_option maxRecDepth 100000 in
theorem heronrylaw15_OplistOps.calls (k : Nat) (A0 : Option Addr) (c0 : Nat) (l0 : List (S74)) (a1 : Int) (r : Bool) (w : World) (hT_ : Aside0 (r = true)) (hr0 : Kd.C k74 w A0 l0.length l0) (hc0 : l0.length ≤ c0) (h : heronrylaw15_OplistOps.f k l0 a1 = some r) :
  Calls Try.prog 6 #[.slice A0 l0.length c0, .int .i64 a1] w fun e w' => e = .returned (.bool r) ∧ Below w.heap.size w w' := by
 have hu26 := Try.underlying26
 have hu48 := Try.underlying48
 have HR0 := am_ hr0
 have HC0 := am_ hc0
 clear hr0 hc0
 have HB := am_ (Below.refl w.heap.size w)
 have H : ((heronrylaw15_awake.f k).bind fun t289 => (if (l0.length : Int) > 200 then (some t289) else ((heronrylaw15_grown.f k l0).bind fun t290 => (heronrylaw15_OplistOps.l0 k t289 (wrap64 (1 + (Go.bits .and .i64 a1 7))) 0 t290 ([] : List (S95)) 0)))) = some r := h
 clear h
 replace H := Option.bind_eq_some_iff.mp H
 obtain ⟨t289, A30, H⟩ := H
 replace H : (if (l0.length : Int) > 200 then (some t289) else ((heronrylaw15_grown.f k l0).bind fun t290 => (heronrylaw15_OplistOps.l0 k t289 (wrap64 (1 + (Go.bits .and .i64 a1 7))) 0 t290 ([] : List (S95)) 0))) = some r := H
 have A3 := am_ A30
 clear A30
 by_cases c4 : (l0.length : Int) > 200
 ·rw [if_pos c4] at H
  have c4b0 : decide (200 < (l0.length : Int)) = true := decide_eq_true c4
  have c4b1 : decide (200 < l0.length) = true := decide_eq_true (by omega)
  clear c4
  obtain rfl := Option.some.inj H
  go_enter Try.func6, Try.ntmps6
  go_wp2_with (first | (go_at_call 8; (with_reducible refine (heronrylaw15_awake.calls k  t289 _ A3.out).mono ?_); rintro e w5 ⟨rfl, hb⟩; have n0_ := am_ (below_step (be_ HB.out) hb); clear HB; have HB := n0_; clear n0_; (try clear hb); (try clear hb2); (try clear hk); (try clear hi)))
  repeat (go_quiet (first | (go_at_call 8; (with_reducible refine (heronrylaw15_awake.calls k  t289 _ A3.out).mono ?_); rintro e w5 ⟨rfl, hb⟩; have n0_ := am_ (below_step (be_ HB.out) hb); clear HB; have HB := n0_; clear n0_; (try clear hb); (try clear hb2); (try clear hk); (try clear hi))); try go_wp2_with (first | (go_at_call 8; (with_reducible refine (heronrylaw15_awake.calls k  t289 _ A3.out).mono ?_); rintro e w5 ⟨rfl, hb⟩; have n0_ := am_ (below_step (be_ HB.out) hb); clear HB; have HB := n0_; clear n0_; (try clear hb); (try clear hb2); (try clear hk); (try clear hi))))
  go_ret
  exact ⟨by first | rfl | (simp [errW_none, errW_some] <;> rfl) | (simp [*, errW_none, errW_some] <;> rfl), be_ HB.out⟩
 ·rw [if_neg c4] at H
  have c4b0 : decide (200 < (l0.length : Int)) = false := decide_eq_false c4
  have c4b1 : decide (200 < l0.length) = false := decide_eq_false (by omega)
  clear c4
  replace H := Option.bind_eq_some_iff.mp H
  obtain ⟨t290, A60, H⟩ := H
  replace H : (heronrylaw15_OplistOps.l0 k t289 (wrap64 (1 + (Go.bits .and .i64 a1 7))) 0 t290 ([] : List (S95)) 0) = some r := H
  have A6 := am_ A60
  clear A60
  have H' := am_ H
  clear H
  go_enter Try.func6, Try.ntmps6
  go_wp2_with (first | (go_at_call 8; (with_reducible refine (heronrylaw15_awake.calls k  t289 _ A3.out).mono ?_); rintro e w7 ⟨rfl, hb⟩; have n0_ := am_ (below_step (be_ HB.out) hb); clear HB; have HB := n0_; clear n0_; (try clear hb); (try clear hb2); (try clear hk); (try clear hi)) | (go_at_call 9; (with_reducible refine (heronrylaw15_grown.calls k _ _ l0 t290 _ ?side1 ?side2 A6.out).mono ?_); (case side1 => repeat (first | exact (Kd.C_below HR0.out HB.out) | (with_reducible refine Kd.C_alloc ?_ _) | (with_reducible refine Kd.C_drewN ?_ _) | (with_reducible refine Kd.C_drew ?_))); (case side2 => exact HC0.out); rintro e w8 ⟨v291, rfl, ho0, hb⟩; have n0_ := am_ (Kd.R_lower ho0 (below_size (be_ HB.out))); have n1_ := am_ (below_step (be_ HB.out) hb); clear HB; have HO292 := n0_; have HB := n1_; clear n0_ n1_; (try clear hb); (try clear hb2); (try clear hk); (try clear hi); (try clear ho0)) | ((with_reducible refine gate_dst (N := 6) rfl ?_); (try (refine gate_guard (by rfl) ?_; dsimp only)); refine box_event ?hg (N := 6) ?hd (cs := #[.slice none 0 0]) (t := 26) ?hr ?_; (case hd => rfl); (case hg => rfl); (case hr => first | (go_simp; done) | (go_simp; rfl)); intro gb293 hg w9 hbox hb; have n0_ := am_ (Kd.R_below (ro_ HO292.out) hb); have n1_ := am_ (below_step (be_ HB.out) hb); have n2_ := am_ (hbox); have n3_ := am_ ((by rw [hg]; exact (below_size (be_ HB.out)) : w.heap.size ≤ gb293)); have n4_ := am_ ((by rw [hg]; exact (below_size (be_ HB.out)) : w.heap.size ≤ gb293)); clear HO292; clear HB; have HO292 := n0_; have HB := n1_; have BK293 := n2_; have GW293 := n3_; have GE293 := n4_; clear n0_ n1_ n2_ n3_ n4_; clear hb hbox hg; obtain ⟨Ao10, co10, eo10⟩ := Kd.R_slice HO292.out; subst eo10; have hcz11_0 : w9.cell? ⟨gb293, 0, none⟩ = some (.slice none 0 0) := (blk_cell BK293.out 0).trans rfl; have hfz11_0 := blk_frozen BK293.out 0) | ((with_reducible refine gate_dst (N := 7) rfl ?_); (try (refine gate_guard (by rfl) ?_; dsimp only)); refine box_event ?hg (N := 7) ?hd (cs := #[.slice none 0 0, .int .i64 0]) (t := 48) ?hr ?_; (case hd => rfl); (case hg => rfl); (case hr => first | (go_simp; done) | (go_simp; rfl)); intro gb294 hg w12 hbox hb; have n0_ := am_ (Kd.R_below (by (with_reducible repeat (first | apply Kd.R_alloc | apply Kd.R_drewN | apply Kd.R_drew)); exact (Kd.R_mono (Kd.R_far (p := ⟨gb293, 0, none⟩) (Kd.R_types HO292.out BK293.out (by decide)) (fun _ hk => hk.2) (.slice Ao10 t290.length co10)) (fun _ h_ => h_.1))) hb); have n1_ := am_ (blk_below (g := gb293) (o := .cells #[.slice Ao10 t290.length co10] 26 (0, 0)) (by (with_reducible repeat (first | refine blk_drewN ?_ _ | refine blk_drew ?_ | refine blk_alloc ?_ _)); refine blk_put (cs := #[.slice none 0 0]) ?_ 0 _ rfl; (with_reducible repeat (first | refine blk_drewN ?_ _ | refine blk_drew ?_ | refine blk_alloc ?_ _)); exact BK293.out) hb); have n2_ := am_ (below_step (be_ HB.out) hb); have n3_ := am_ (hbox); have n4_ := am_ ((by rw [hg]; exact (below_size (be_ HB.out)) : w.heap.size ≤ gb294)); have n5_ := am_ ((by rw [hg]; exact (below_size (be_ HB.out)) : w.heap.size ≤ gb294)); have n6_ := am_ ((by rw [hg]; exact Nat.ne_of_lt (blk_lt (g := gb293) (o := .cells #[.slice Ao10 t290.length co10] 26 (0, 0)) (by (with_reducible repeat (first | refine blk_drewN ?_ _ | refine blk_drew ?_ | refine blk_alloc ?_ _)); refine blk_put (cs := #[.slice none 0 0]) ?_ 0 _ rfl; (with_reducible repeat (first | refine blk_drewN ?_ _ | refine blk_drew ?_ | refine blk_alloc ?_ _)); exact BK293.out)) : gb293 ≠ gb294)); have n7_ := am_ ((by rw [hg]; exact Nat.ne_of_gt (blk_lt (g := gb293) (o := .cells #[.slice Ao10 t290.length co10] 26 (0, 0)) (by (with_reducible repeat (first | refine blk_drewN ?_ _ | refine blk_drew ?_ | refine blk_alloc ?_ _)); refine blk_put (cs := #[.slice none 0 0]) ?_ 0 _ rfl; (with_reducible repeat (first | refine blk_drewN ?_ _ | refine blk_drew ?_ | refine blk_alloc ?_ _)); exact BK293.out)) : gb294 ≠ gb293)); clear HO292; clear BK293; clear HB; have HO292 := n0_; have BK293 := n1_; have HB := n2_; have BK294 := n3_; have GW294 := n4_; have GE294 := n5_; have NB293_294 := n6_; have NB294_293 := n7_; clear n0_ n1_ n2_ n3_ n4_ n5_ n6_ n7_; clear hb hbox hg; have hnb13 := NB294_293.out; have hnc13 := NB293_294.out; have hcz14_0 : w12.cell? ⟨gb294, 0, none⟩ = some (.slice none 0 0) := (blk_cell BK294.out 0).trans rfl; have hcz14_1 : w12.cell? ⟨gb294, 1, none⟩ = some (.int .i64 0) := (blk_cell BK294.out 1).trans rfl; have hfz14_0 := blk_frozen BK294.out 0; have hfz14_1 := blk_frozen BK294.out 1))
  repeat (go_quiet (first | (go_at_call 8; (with_reducible refine (heronrylaw15_awake.calls k  t289 _ A3.out).mono ?_); rintro e w7 ⟨rfl, hb⟩; have n0_ := am_ (below_step (be_ HB.out) hb); clear HB; have HB := n0_; clear n0_; (try clear hb); (try clear hb2); (try clear hk); (try clear hi)) | (go_at_call 9; (with_reducible refine (heronrylaw15_grown.calls k _ _ l0 t290 _ ?side1 ?side2 A6.out).mono ?_); (case side1 => repeat (first | exact (Kd.C_below HR0.out HB.out) | (with_reducible refine Kd.C_alloc ?_ _) | (with_reducible refine Kd.C_drewN ?_ _) | (with_reducible refine Kd.C_drew ?_))); (case side2 => exact HC0.out); rintro e w8 ⟨v291, rfl, ho0, hb⟩; have n0_ := am_ (Kd.R_lower ho0 (below_size (be_ HB.out))); have n1_ := am_ (below_step (be_ HB.out) hb); clear HB; have HO292 := n0_; have HB := n1_; clear n0_ n1_; (try clear hb); (try clear hb2); (try clear hk); (try clear hi); (try clear ho0)) | ((with_reducible refine gate_dst (N := 6) rfl ?_); (try (refine gate_guard (by rfl) ?_; dsimp only)); refine box_event ?hg (N := 6) ?hd (cs := #[.slice none 0 0]) (t := 26) ?hr ?_; (case hd => rfl); (case hg => rfl); (case hr => first | (go_simp; done) | (go_simp; rfl)); intro gb293 hg w9 hbox hb; have n0_ := am_ (Kd.R_below (ro_ HO292.out) hb); have n1_ := am_ (below_step (be_ HB.out) hb); have n2_ := am_ (hbox); have n3_ := am_ ((by rw [hg]; exact (below_size (be_ HB.out)) : w.heap.size ≤ gb293)); have n4_ := am_ ((by rw [hg]; exact (below_size (be_ HB.out)) : w.heap.size ≤ gb293)); clear HO292; clear HB; have HO292 := n0_; have HB := n1_; have BK293 := n2_; have GW293 := n3_; have GE293 := n4_; clear n0_ n1_ n2_ n3_ n4_; clear hb hbox hg; obtain ⟨Ao10, co10, eo10⟩ := Kd.R_slice HO292.out; subst eo10; have hcz11_0 : w9.cell? ⟨gb293, 0, none⟩ = some (.slice none 0 0) := (blk_cell BK293.out 0).trans rfl; have hfz11_0 := blk_frozen BK293.out 0) | ((with_reducible refine gate_dst (N := 7) rfl ?_); (try (refine gate_guard (by rfl) ?_; dsimp only)); refine box_event ?hg (N := 7) ?hd (cs := #[.slice none 0 0, .int .i64 0]) (t := 48) ?hr ?_; (case hd => rfl); (case hg => rfl); (case hr => first | (go_simp; done) | (go_simp; rfl)); intro gb294 hg w12 hbox hb; have n0_ := am_ (Kd.R_below (by (with_reducible repeat (first | apply Kd.R_alloc | apply Kd.R_drewN | apply Kd.R_drew)); exact (Kd.R_mono (Kd.R_far (p := ⟨gb293, 0, none⟩) (Kd.R_types HO292.out BK293.out (by decide)) (fun _ hk => hk.2) (.slice Ao10 t290.length co10)) (fun _ h_ => h_.1))) hb); have n1_ := am_ (blk_below (g := gb293) (o := .cells #[.slice Ao10 t290.length co10] 26 (0, 0)) (by (with_reducible repeat (first | refine blk_drewN ?_ _ | refine blk_drew ?_ | refine blk_alloc ?_ _)); refine blk_put (cs := #[.slice none 0 0]) ?_ 0 _ rfl; (with_reducible repeat (first | refine blk_drewN ?_ _ | refine blk_drew ?_ | refine blk_alloc ?_ _)); exact BK293.out) hb); have n2_ := am_ (below_step (be_ HB.out) hb); have n3_ := am_ (hbox); have n4_ := am_ ((by rw [hg]; exact (below_size (be_ HB.out)) : w.heap.size ≤ gb294)); have n5_ := am_ ((by rw [hg]; exact (below_size (be_ HB.out)) : w.heap.size ≤ gb294)); have n6_ := am_ ((by rw [hg]; exact Nat.ne_of_lt (blk_lt (g := gb293) (o := .cells #[.slice Ao10 t290.length co10] 26 (0, 0)) (by (with_reducible repeat (first | refine blk_drewN ?_ _ | refine blk_drew ?_ | refine blk_alloc ?_ _)); refine blk_put (cs := #[.slice none 0 0]) ?_ 0 _ rfl; (with_reducible repeat (first | refine blk_drewN ?_ _ | refine blk_drew ?_ | refine blk_alloc ?_ _)); exact BK293.out)) : gb293 ≠ gb294)); have n7_ := am_ ((by rw [hg]; exact Nat.ne_of_gt (blk_lt (g := gb293) (o := .cells #[.slice Ao10 t290.length co10] 26 (0, 0)) (by (with_reducible repeat (first | refine blk_drewN ?_ _ | refine blk_drew ?_ | refine blk_alloc ?_ _)); refine blk_put (cs := #[.slice none 0 0]) ?_ 0 _ rfl; (with_reducible repeat (first | refine blk_drewN ?_ _ | refine blk_drew ?_ | refine blk_alloc ?_ _)); exact BK293.out)) : gb294 ≠ gb293)); clear HO292; clear BK293; clear HB; have HO292 := n0_; have BK293 := n1_; have HB := n2_; have BK294 := n3_; have GW294 := n4_; have GE294 := n5_; have NB293_294 := n6_; have NB294_293 := n7_; clear n0_ n1_ n2_ n3_ n4_ n5_ n6_ n7_; clear hb hbox hg; have hnb13 := NB294_293.out; have hnc13 := NB293_294.out; have hcz14_0 : w12.cell? ⟨gb294, 0, none⟩ = some (.slice none 0 0) := (blk_cell BK294.out 0).trans rfl; have hcz14_1 : w12.cell? ⟨gb294, 1, none⟩ = some (.int .i64 0) := (blk_cell BK294.out 1).trans rfl; have hfz14_0 := blk_frozen BK294.out 0; have hfz14_1 := blk_frozen BK294.out 1)); try go_wp2_with (first | (go_at_call 8; (with_reducible refine (heronrylaw15_awake.calls k  t289 _ A3.out).mono ?_); rintro e w7 ⟨rfl, hb⟩; have n0_ := am_ (below_step (be_ HB.out) hb); clear HB; have HB := n0_; clear n0_; (try clear hb); (try clear hb2); (try clear hk); (try clear hi)) | (go_at_call 9; (with_reducible refine (heronrylaw15_grown.calls k _ _ l0 t290 _ ?side1 ?side2 A6.out).mono ?_); (case side1 => repeat (first | exact (Kd.C_below HR0.out HB.out) | (with_reducible refine Kd.C_alloc ?_ _) | (with_reducible refine Kd.C_drewN ?_ _) | (with_reducible refine Kd.C_drew ?_))); (case side2 => exact HC0.out); rintro e w8 ⟨v291, rfl, ho0, hb⟩; have n0_ := am_ (Kd.R_lower ho0 (below_size (be_ HB.out))); have n1_ := am_ (below_step (be_ HB.out) hb); clear HB; have HO292 := n0_; have HB := n1_; clear n0_ n1_; (try clear hb); (try clear hb2); (try clear hk); (try clear hi); (try clear ho0)) | ((with_reducible refine gate_dst (N := 6) rfl ?_); (try (refine gate_guard (by rfl) ?_; dsimp only)); refine box_event ?hg (N := 6) ?hd (cs := #[.slice none 0 0]) (t := 26) ?hr ?_; (case hd => rfl); (case hg => rfl); (case hr => first | (go_simp; done) | (go_simp; rfl)); intro gb293 hg w9 hbox hb; have n0_ := am_ (Kd.R_below (ro_ HO292.out) hb); have n1_ := am_ (below_step (be_ HB.out) hb); have n2_ := am_ (hbox); have n3_ := am_ ((by rw [hg]; exact (below_size (be_ HB.out)) : w.heap.size ≤ gb293)); have n4_ := am_ ((by rw [hg]; exact (below_size (be_ HB.out)) : w.heap.size ≤ gb293)); clear HO292; clear HB; have HO292 := n0_; have HB := n1_; have BK293 := n2_; have GW293 := n3_; have GE293 := n4_; clear n0_ n1_ n2_ n3_ n4_; clear hb hbox hg; obtain ⟨Ao10, co10, eo10⟩ := Kd.R_slice HO292.out; subst eo10; have hcz11_0 : w9.cell? ⟨gb293, 0, none⟩ = some (.slice none 0 0) := (blk_cell BK293.out 0).trans rfl; have hfz11_0 := blk_frozen BK293.out 0) | ((with_reducible refine gate_dst (N := 7) rfl ?_); (try (refine gate_guard (by rfl) ?_; dsimp only)); refine box_event ?hg (N := 7) ?hd (cs := #[.slice none 0 0, .int .i64 0]) (t := 48) ?hr ?_; (case hd => rfl); (case hg => rfl); (case hr => first | (go_simp; done) | (go_simp; rfl)); intro gb294 hg w12 hbox hb; have n0_ := am_ (Kd.R_below (by (with_reducible repeat (first | apply Kd.R_alloc | apply Kd.R_drewN | apply Kd.R_drew)); exact (Kd.R_mono (Kd.R_far (p := ⟨gb293, 0, none⟩) (Kd.R_types HO292.out BK293.out (by decide)) (fun _ hk => hk.2) (.slice Ao10 t290.length co10)) (fun _ h_ => h_.1))) hb); have n1_ := am_ (blk_below (g := gb293) (o := .cells #[.slice Ao10 t290.length co10] 26 (0, 0)) (by (with_reducible repeat (first | refine blk_drewN ?_ _ | refine blk_drew ?_ | refine blk_alloc ?_ _)); refine blk_put (cs := #[.slice none 0 0]) ?_ 0 _ rfl; (with_reducible repeat (first | refine blk_drewN ?_ _ | refine blk_drew ?_ | refine blk_alloc ?_ _)); exact BK293.out) hb); have n2_ := am_ (below_step (be_ HB.out) hb); have n3_ := am_ (hbox); have n4_ := am_ ((by rw [hg]; exact (below_size (be_ HB.out)) : w.heap.size ≤ gb294)); have n5_ := am_ ((by rw [hg]; exact (below_size (be_ HB.out)) : w.heap.size ≤ gb294)); have n6_ := am_ ((by rw [hg]; exact Nat.ne_of_lt (blk_lt (g := gb293) (o := .cells #[.slice Ao10 t290.length co10] 26 (0, 0)) (by (with_reducible repeat (first | refine blk_drewN ?_ _ | refine blk_drew ?_ | refine blk_alloc ?_ _)); refine blk_put (cs := #[.slice none 0 0]) ?_ 0 _ rfl; (with_reducible repeat (first | refine blk_drewN ?_ _ | refine blk_drew ?_ | refine blk_alloc ?_ _)); exact BK293.out)) : gb293 ≠ gb294)); have n7_ := am_ ((by rw [hg]; exact Nat.ne_of_gt (blk_lt (g := gb293) (o := .cells #[.slice Ao10 t290.length co10] 26 (0, 0)) (by (with_reducible repeat (first | refine blk_drewN ?_ _ | refine blk_drew ?_ | refine blk_alloc ?_ _)); refine blk_put (cs := #[.slice none 0 0]) ?_ 0 _ rfl; (with_reducible repeat (first | refine blk_drewN ?_ _ | refine blk_drew ?_ | refine blk_alloc ?_ _)); exact BK293.out)) : gb294 ≠ gb293)); clear HO292; clear BK293; clear HB; have HO292 := n0_; have BK293 := n1_; have HB := n2_; have BK294 := n3_; have GW294 := n4_; have GE294 := n5_; have NB293_294 := n6_; have NB294_293 := n7_; clear n0_ n1_ n2_ n3_ n4_ n5_ n6_ n7_; clear hb hbox hg; have hnb13 := NB294_293.out; have hnc13 := NB293_294.out; have hcz14_0 : w12.cell? ⟨gb294, 0, none⟩ = some (.slice none 0 0) := (blk_cell BK294.out 0).trans rfl; have hcz14_1 : w12.cell? ⟨gb294, 1, none⟩ = some (.int .i64 0) := (blk_cell BK294.out 1).trans rfl; have hfz14_0 := blk_frozen BK294.out 0; have hfz14_1 := blk_frozen BK294.out 1)))
  go_loopg [9] k (fun kq v9 w' => ∃ (x9_1 : Int) (x295000_1 : List (S95)) (x295001_1 : Int) (u295000 : Value), v9 = .int .i64 x9_1 ∧ Aside0 (heronrylaw15_OplistOps.l0 kq t289 (wrap64 (1 + (Go.bits .and .i64 a1 7))) x9_1 t290 x295000_1 x295001_1 = some r) ∧ Aside0 (kq ≤ k) ∧ Aside0 (Kd.R k33 33 w' w.heap.size (fun _ => True) (.slice Ao10 t290.length co10) t290) ∧ Aside0 (Kd.R k95 95 w' w.heap.size (fun _ => True) u295000 x295000_1) ∧ Aside0 (w'.heap[gb293]? = some (.cells #[(.slice Ao10 t290.length co10)] 26 (0, 0))) ∧ Aside0 (w'.heap[gb294]? = some (.cells #[u295000, .int .i64 x295001_1] 48 (0, 0))) ∧ Aside0 (Below w.heap.size w w'))
  case atStart => exact ⟨(0), (([] : List (S95))), (0), (.slice none 0 0), (by first | rfl | (simp; done) | (simp [*]; done)), H', ⟨Nat.le_refl _⟩, ⟨by (with_reducible repeat (first | apply Kd.R_alloc | apply Kd.R_drewN | apply Kd.R_drew)); exact Kd.R_mono (Kd.R_far (p := ⟨gb294, 1, none⟩) (Kd.R_far (p := ⟨gb294, 0, none⟩) (Kd.R_types HO292.out BK294.out (by decide)) (fun _ hk => hk.2) (.slice none 0 0)) (fun _ hk => hk.2) (.int .i64 0)) (fun _ hk => trivial)⟩, ⟨by first | exact Kd.R_nil _ _ _ _ _ | exact Kd.N_nil _ _ _ _ _ | exact Kd.V_nil _ _ _ _ _ | exact Kd.Q_nil _ _ _ _ _ | exact Kd.S_nil _ _ _ _ _⟩, ⟨by (with_reducible repeat (first | refine blk_drewN ?_ _ | refine blk_drew ?_ | refine blk_alloc ?_ _)); refine blk_far ?_ NB293_294.out _; (with_reducible repeat (first | refine blk_drewN ?_ _ | refine blk_drew ?_ | refine blk_alloc ?_ _)); refine blk_far ?_ NB293_294.out _; (with_reducible repeat (first | refine blk_drewN ?_ _ | refine blk_drew ?_ | refine blk_alloc ?_ _)); exact BK293.out⟩, ⟨by (with_reducible repeat (first | refine blk_drewN ?_ _ | refine blk_drew ?_ | refine blk_alloc ?_ _)); refine blk_put (cs := #[.slice none 0 0, .int .i64 0]) ?_ 1 _ rfl; (with_reducible repeat (first | refine blk_drewN ?_ _ | refine blk_drew ?_ | refine blk_alloc ?_ _)); refine blk_put (cs := #[.slice none 0 0, .int .i64 0]) ?_ 0 _ rfl; (with_reducible repeat (first | refine blk_drewN ?_ _ | refine blk_drew ?_ | refine blk_alloc ?_ _)); exact BK294.out⟩, ⟨be_ HB.out⟩⟩
  case round =>
   clear H'
   try clear c1
   try clear p2
   try clear c4
   try clear c4b0
   try clear c4b1
   try clear c6
   try clear p6
   try clear c13
   try clear hcz11_0
   try clear hcz14_0
   try clear hcz14_1
   try clear hfz11_0
   try clear hfz14_0
   try clear hfz14_1
   obtain ⟨x9_1, x295000_1, x295001_1, u295000, rfl, HA, HK1, HO_294000, HO_295000, BK293, BK294, HB⟩ := hrel
   cases gk with
   | zero => exact absurd HA.out (by simp [heronrylaw15_OplistOps.l0])
   | succ k1 =>
    have H := HA.out
    clear HA
    simp only [heronrylaw15_OplistOps.l0] at H
    by_cases c15 : x9_1 < (wrap64 (1 + (Go.bits .and .i64 a1 7)))
    ·rw [if_pos c15] at H
     have c15b0 : decide (x9_1 < (wrap64 (1 + (Go.bits .and .i64 a1 7)))) = true := decide_eq_true c15
     clear c15
     replace H := Option.bind_eq_some_iff.mp H
     obtain ⟨⟨t295, t298, t299, t300⟩, A160, H⟩ := H
     replace H : (if t300 = 0 then (heronrylaw15_OplistOps.l0 k1 t289 (wrap64 (1 + (Go.bits .and .i64 a1 7))) (wrap64 (x9_1 + 1)) t290 t295 t298) else (none)) = some r := H
     have A16 := am_ A160
     clear A160
     by_cases c17 : t300 = 0
     ·rw [if_pos c17] at H
      have c17b0 : (t300 == 0) = true := beq_iff_eq.mpr c17
      have c17b1 : (t300 != 0) = false := bne_eq_false_iff_eq.mpr c17
      clear c17
      have H' := am_ H
      clear H
      have hnb18 := NB294_293.out
      have hnc18 := NB293_294.out
      have hcz19_0 : wr.cell? ⟨gb294, 0, none⟩ = some (u295000) := (blk_cell BK294.out 0).trans rfl
      have hcz19_1 : wr.cell? ⟨gb294, 1, none⟩ = some (.int .i64 x295001_1) := (blk_cell BK294.out 1).trans rfl
      have hfz19_0 := blk_frozen BK294.out 0
      have hfz19_1 := blk_frozen BK294.out 1
      obtain ⟨Ao20, co20, eo20⟩ := Kd.R_slice HO_295000.out
      subst eo20
      go_wp2_with (first | (go_at_call 18; (with_reducible refine (tree_Begin.calls k1 _ _ x295000_1 x295001_1 (wrap64 ((Go.bits .and .i64 x9_1 1) - 1)) t295 t298 t299 t300 _ ?side1 ?side2 A16.out).mono ?_); (case side1 => repeat (first | exact (Kd.R_reads' HO_295000.out).2.2 | (with_reducible refine Kd.C_alloc ?_ _) | (with_reducible refine Kd.C_drewN ?_ _) | (with_reducible refine Kd.C_drew ?_))); (case side2 => exact (Kd.R_reads' HO_295000.out).2.1); rintro e w21 ⟨v296, rfl, ho0, hb⟩; have n0_ := am_ (Kd.R_below (ro_ HO_294000.out) hb); have n1_ := am_ (Kd.R_elder' (ro_ HO_295000.out) (Kd.R_base ho0) hb); have n2_ := am_ (Kd.R_lower (Kd.R_new' ho0 (Kd.R_lt (ro_ HO_295000.out))) (below_size (be_ HB.out))); have n3_ := am_ (bb_ BK293.out hb); have n4_ := am_ (bb_ BK294.out hb); have n5_ := am_ (below_step (be_ HB.out) hb); clear HO_294000; clear HO_295000; clear BK293; clear BK294; clear HB; have HO_294000 := n0_; have HO_295000 := n1_; have HO297 := n2_; have BK293 := n3_; have BK294 := n4_; have HB := n5_; clear n0_ n1_ n2_ n3_ n4_ n5_; (try clear hb); (try clear hb2); (try clear hk); (try clear hi); (try clear ho0)) | ((with_reducible refine gate_dst (N := 10) rfl ?_); (try (refine gate_guard (by rfl) ?_; dsimp only)); refine box_event ?hg (N := 10) ?hd (cs := #[.slice none 0 0, .int .i64 0]) (t := 48) ?hr ?_; (case hd => rfl); (case hg => rfl); (case hr => first | (go_simp; done) | (go_simp; rfl)); intro gb301 hg w22 hbox hb; have n0_ := am_ (Kd.R_below (ro_ HO_294000.out) hb); have n1_ := am_ (Kd.R_below (ro_ HO_295000.out) hb); have n2_ := am_ (Kd.R_below (ro_ HO297.out) hb); have n3_ := am_ (bb_ BK293.out hb); have n4_ := am_ (bb_ BK294.out hb); have n5_ := am_ (below_step (be_ HB.out) hb); have n6_ := am_ (hbox); have n7_ := am_ ((by rw [hg]; exact (below_size (be_ HB.out)) : w.heap.size ≤ gb301)); have n8_ := am_ ((by rw [hg]; exact (below_size (be_ HB.out)) : w.heap.size ≤ gb301)); have n9_ := am_ ((by rw [hg]; exact Nat.ne_of_lt (bl_ BK293.out) : gb293 ≠ gb301)); have n10_ := am_ ((by rw [hg]; exact Nat.ne_of_gt (bl_ BK293.out) : gb301 ≠ gb293)); have n11_ := am_ ((by rw [hg]; exact Nat.ne_of_lt (bl_ BK294.out) : gb294 ≠ gb301)); have n12_ := am_ ((by rw [hg]; exact Nat.ne_of_gt (bl_ BK294.out) : gb301 ≠ gb294)); clear HO_294000; clear HO_295000; clear HO297; clear BK293; clear BK294; clear HB; have HO_294000 := n0_; have HO_295000 := n1_; have HO297 := n2_; have BK293 := n3_; have BK294 := n4_; have HB := n5_; have BK301 := n6_; have GW301 := n7_; have GE301 := n8_; have NB293_301 := n9_; have NB301_293 := n10_; have NB294_301 := n11_; have NB301_294 := n12_; clear n0_ n1_ n2_ n3_ n4_ n5_ n6_ n7_ n8_ n9_ n10_ n11_ n12_; clear hb hbox hg; obtain ⟨Ao23, co23, eo23⟩ := Kd.R_slice HO297.out; subst eo23; have hnb24 := NB301_293.out; have hnc24 := NB293_301.out; have hnb25 := NB301_294.out; have hnc25 := NB294_301.out; have hcz26_0 : w22.cell? ⟨gb301, 0, none⟩ = some (.slice none 0 0) := (blk_cell BK301.out 0).trans rfl; have hcz26_1 : w22.cell? ⟨gb301, 1, none⟩ = some (.int .i64 0) := (blk_cell BK301.out 1).trans rfl; have hfz26_0 := blk_frozen BK301.out 0; have hfz26_1 := blk_frozen BK301.out 1; have hcz27_0 : w22.cell? ⟨gb294, 0, none⟩ = some (.slice Ao20 x295000_1.length co20) := (blk_cell BK294.out 0).trans rfl; have hcz27_1 : w22.cell? ⟨gb294, 1, none⟩ = some (.int .i64 x295001_1) := (blk_cell BK294.out 1).trans rfl; have hfz27_0 := blk_frozen BK294.out 0; have hfz27_1 := blk_frozen BK294.out 1))
      repeat (go_quiet (first | (go_at_call 18; (with_reducible refine (tree_Begin.calls k1 _ _ x295000_1 x295001_1 (wrap64 ((Go.bits .and .i64 x9_1 1) - 1)) t295 t298 t299 t300 _ ?side1 ?side2 A16.out).mono ?_); (case side1 => repeat (first | exact (Kd.R_reads' HO_295000.out).2.2 | (with_reducible refine Kd.C_alloc ?_ _) | (with_reducible refine Kd.C_drewN ?_ _) | (with_reducible refine Kd.C_drew ?_))); (case side2 => exact (Kd.R_reads' HO_295000.out).2.1); rintro e w21 ⟨v296, rfl, ho0, hb⟩; have n0_ := am_ (Kd.R_below (ro_ HO_294000.out) hb); have n1_ := am_ (Kd.R_elder' (ro_ HO_295000.out) (Kd.R_base ho0) hb); have n2_ := am_ (Kd.R_lower (Kd.R_new' ho0 (Kd.R_lt (ro_ HO_295000.out))) (below_size (be_ HB.out))); have n3_ := am_ (bb_ BK293.out hb); have n4_ := am_ (bb_ BK294.out hb); have n5_ := am_ (below_step (be_ HB.out) hb); clear HO_294000; clear HO_295000; clear BK293; clear BK294; clear HB; have HO_294000 := n0_; have HO_295000 := n1_; have HO297 := n2_; have BK293 := n3_; have BK294 := n4_; have HB := n5_; clear n0_ n1_ n2_ n3_ n4_ n5_; (try clear hb); (try clear hb2); (try clear hk); (try clear hi); (try clear ho0)) | ((with_reducible refine gate_dst (N := 10) rfl ?_); (try (refine gate_guard (by rfl) ?_; dsimp only)); refine box_event ?hg (N := 10) ?hd (cs := #[.slice none 0 0, .int .i64 0]) (t := 48) ?hr ?_; (case hd => rfl); (case hg => rfl); (case hr => first | (go_simp; done) | (go_simp; rfl)); intro gb301 hg w22 hbox hb; have n0_ := am_ (Kd.R_below (ro_ HO_294000.out) hb); have n1_ := am_ (Kd.R_below (ro_ HO_295000.out) hb); have n2_ := am_ (Kd.R_below (ro_ HO297.out) hb); have n3_ := am_ (bb_ BK293.out hb); have n4_ := am_ (bb_ BK294.out hb); have n5_ := am_ (below_step (be_ HB.out) hb); have n6_ := am_ (hbox); have n7_ := am_ ((by rw [hg]; exact (below_size (be_ HB.out)) : w.heap.size ≤ gb301)); have n8_ := am_ ((by rw [hg]; exact (below_size (be_ HB.out)) : w.heap.size ≤ gb301)); have n9_ := am_ ((by rw [hg]; exact Nat.ne_of_lt (bl_ BK293.out) : gb293 ≠ gb301)); have n10_ := am_ ((by rw [hg]; exact Nat.ne_of_gt (bl_ BK293.out) : gb301 ≠ gb293)); have n11_ := am_ ((by rw [hg]; exact Nat.ne_of_lt (bl_ BK294.out) : gb294 ≠ gb301)); have n12_ := am_ ((by rw [hg]; exact Nat.ne_of_gt (bl_ BK294.out) : gb301 ≠ gb294)); clear HO_294000; clear HO_295000; clear HO297; clear BK293; clear BK294; clear HB; have HO_294000 := n0_; have HO_295000 := n1_; have HO297 := n2_; have BK293 := n3_; have BK294 := n4_; have HB := n5_; have BK301 := n6_; have GW301 := n7_; have GE301 := n8_; have NB293_301 := n9_; have NB301_293 := n10_; have NB294_301 := n11_; have NB301_294 := n12_; clear n0_ n1_ n2_ n3_ n4_ n5_ n6_ n7_ n8_ n9_ n10_ n11_ n12_; clear hb hbox hg; obtain ⟨Ao23, co23, eo23⟩ := Kd.R_slice HO297.out; subst eo23; have hnb24 := NB301_293.out; have hnc24 := NB293_301.out; have hnb25 := NB301_294.out; have hnc25 := NB294_301.out; have hcz26_0 : w22.cell? ⟨gb301, 0, none⟩ = some (.slice none 0 0) := (blk_cell BK301.out 0).trans rfl; have hcz26_1 : w22.cell? ⟨gb301, 1, none⟩ = some (.int .i64 0) := (blk_cell BK301.out 1).trans rfl; have hfz26_0 := blk_frozen BK301.out 0; have hfz26_1 := blk_frozen BK301.out 1; have hcz27_0 : w22.cell? ⟨gb294, 0, none⟩ = some (.slice Ao20 x295000_1.length co20) := (blk_cell BK294.out 0).trans rfl; have hcz27_1 : w22.cell? ⟨gb294, 1, none⟩ = some (.int .i64 x295001_1) := (blk_cell BK294.out 1).trans rfl; have hfz27_0 := blk_frozen BK294.out 0; have hfz27_1 := blk_frozen BK294.out 1)); try go_wp2_with (first | (go_at_call 18; (with_reducible refine (tree_Begin.calls k1 _ _ x295000_1 x295001_1 (wrap64 ((Go.bits .and .i64 x9_1 1) - 1)) t295 t298 t299 t300 _ ?side1 ?side2 A16.out).mono ?_); (case side1 => repeat (first | exact (Kd.R_reads' HO_295000.out).2.2 | (with_reducible refine Kd.C_alloc ?_ _) | (with_reducible refine Kd.C_drewN ?_ _) | (with_reducible refine Kd.C_drew ?_))); (case side2 => exact (Kd.R_reads' HO_295000.out).2.1); rintro e w21 ⟨v296, rfl, ho0, hb⟩; have n0_ := am_ (Kd.R_below (ro_ HO_294000.out) hb); have n1_ := am_ (Kd.R_elder' (ro_ HO_295000.out) (Kd.R_base ho0) hb); have n2_ := am_ (Kd.R_lower (Kd.R_new' ho0 (Kd.R_lt (ro_ HO_295000.out))) (below_size (be_ HB.out))); have n3_ := am_ (bb_ BK293.out hb); have n4_ := am_ (bb_ BK294.out hb); have n5_ := am_ (below_step (be_ HB.out) hb); clear HO_294000; clear HO_295000; clear BK293; clear BK294; clear HB; have HO_294000 := n0_; have HO_295000 := n1_; have HO297 := n2_; have BK293 := n3_; have BK294 := n4_; have HB := n5_; clear n0_ n1_ n2_ n3_ n4_ n5_; (try clear hb); (try clear hb2); (try clear hk); (try clear hi); (try clear ho0)) | ((with_reducible refine gate_dst (N := 10) rfl ?_); (try (refine gate_guard (by rfl) ?_; dsimp only)); refine box_event ?hg (N := 10) ?hd (cs := #[.slice none 0 0, .int .i64 0]) (t := 48) ?hr ?_; (case hd => rfl); (case hg => rfl); (case hr => first | (go_simp; done) | (go_simp; rfl)); intro gb301 hg w22 hbox hb; have n0_ := am_ (Kd.R_below (ro_ HO_294000.out) hb); have n1_ := am_ (Kd.R_below (ro_ HO_295000.out) hb); have n2_ := am_ (Kd.R_below (ro_ HO297.out) hb); have n3_ := am_ (bb_ BK293.out hb); have n4_ := am_ (bb_ BK294.out hb); have n5_ := am_ (below_step (be_ HB.out) hb); have n6_ := am_ (hbox); have n7_ := am_ ((by rw [hg]; exact (below_size (be_ HB.out)) : w.heap.size ≤ gb301)); have n8_ := am_ ((by rw [hg]; exact (below_size (be_ HB.out)) : w.heap.size ≤ gb301)); have n9_ := am_ ((by rw [hg]; exact Nat.ne_of_lt (bl_ BK293.out) : gb293 ≠ gb301)); have n10_ := am_ ((by rw [hg]; exact Nat.ne_of_gt (bl_ BK293.out) : gb301 ≠ gb293)); have n11_ := am_ ((by rw [hg]; exact Nat.ne_of_lt (bl_ BK294.out) : gb294 ≠ gb301)); have n12_ := am_ ((by rw [hg]; exact Nat.ne_of_gt (bl_ BK294.out) : gb301 ≠ gb294)); clear HO_294000; clear HO_295000; clear HO297; clear BK293; clear BK294; clear HB; have HO_294000 := n0_; have HO_295000 := n1_; have HO297 := n2_; have BK293 := n3_; have BK294 := n4_; have HB := n5_; have BK301 := n6_; have GW301 := n7_; have GE301 := n8_; have NB293_301 := n9_; have NB301_293 := n10_; have NB294_301 := n11_; have NB301_294 := n12_; clear n0_ n1_ n2_ n3_ n4_ n5_ n6_ n7_ n8_ n9_ n10_ n11_ n12_; clear hb hbox hg; obtain ⟨Ao23, co23, eo23⟩ := Kd.R_slice HO297.out; subst eo23; have hnb24 := NB301_293.out; have hnc24 := NB293_301.out; have hnb25 := NB301_294.out; have hnc25 := NB294_301.out; have hcz26_0 : w22.cell? ⟨gb301, 0, none⟩ = some (.slice none 0 0) := (blk_cell BK301.out 0).trans rfl; have hcz26_1 : w22.cell? ⟨gb301, 1, none⟩ = some (.int .i64 0) := (blk_cell BK301.out 1).trans rfl; have hfz26_0 := blk_frozen BK301.out 0; have hfz26_1 := blk_frozen BK301.out 1; have hcz27_0 : w22.cell? ⟨gb294, 0, none⟩ = some (.slice Ao20 x295000_1.length co20) := (blk_cell BK294.out 0).trans rfl; have hcz27_1 : w22.cell? ⟨gb294, 1, none⟩ = some (.int .i64 x295001_1) := (blk_cell BK294.out 1).trans rfl; have hfz27_0 := blk_frozen BK294.out 0; have hfz27_1 := blk_frozen BK294.out 1)))
      go_roundg k1
      case measure => have := HK1.out; omega
      case rel => exact ⟨(wrap64 (x9_1 + 1)), (t295), (t298), (.slice Ao23 t295.length co23), (by first | rfl | (simp; done) | (simp [*]; done)), H', ⟨by have := HK1.out; omega⟩, ⟨by (with_reducible repeat (first | apply Kd.R_alloc | apply Kd.R_drewN | apply Kd.R_drew)); exact Kd.R_mono (Kd.R_far (p := ⟨gb294, 1, none⟩) (Kd.R_far (p := ⟨gb294, 0, none⟩) (Kd.R_far (p := ⟨gb301, 1, none⟩) (Kd.R_far (p := ⟨gb301, 0, none⟩) (Kd.R_types (Kd.R_types HO_294000.out BK301.out (by decide)) BK294.out (by decide)) (fun _ hk => hk.1.2) (.slice Ao23 t295.length co23)) (fun _ hk => hk.1.2) (.int .i64 t298)) (fun _ hk => hk.2) (.slice Ao23 t295.length co23)) (fun _ hk => hk.2) (.int .i64 t298)) (fun _ hk => trivial)⟩, ⟨by (with_reducible repeat (first | apply Kd.R_alloc | apply Kd.R_drewN | apply Kd.R_drew)); exact Kd.R_mono (Kd.R_far (p := ⟨gb294, 1, none⟩) (Kd.R_far (p := ⟨gb294, 0, none⟩) (Kd.R_far (p := ⟨gb301, 1, none⟩) (Kd.R_far (p := ⟨gb301, 0, none⟩) (Kd.R_types (Kd.R_types HO297.out BK301.out (by decide)) BK294.out (by decide)) (fun _ hk => hk.1.2) (.slice Ao23 t295.length co23)) (fun _ hk => hk.1.2) (.int .i64 t298)) (fun _ hk => hk.2) (.slice Ao23 t295.length co23)) (fun _ hk => hk.2) (.int .i64 t298)) (fun _ hk => trivial)⟩, ⟨by (with_reducible repeat (first | refine blk_drewN ?_ _ | refine blk_drew ?_ | refine blk_alloc ?_ _)); refine blk_far ?_ NB293_294.out _; (with_reducible repeat (first | refine blk_drewN ?_ _ | refine blk_drew ?_ | refine blk_alloc ?_ _)); refine blk_far ?_ NB293_294.out _; (with_reducible repeat (first | refine blk_drewN ?_ _ | refine blk_drew ?_ | refine blk_alloc ?_ _)); refine blk_far ?_ NB293_301.out _; (with_reducible repeat (first | refine blk_drewN ?_ _ | refine blk_drew ?_ | refine blk_alloc ?_ _)); refine blk_far ?_ NB293_301.out _; (with_reducible repeat (first | refine blk_drewN ?_ _ | refine blk_drew ?_ | refine blk_alloc ?_ _)); exact BK293.out⟩, ⟨by (with_reducible repeat (first | refine blk_drewN ?_ _ | refine blk_drew ?_ | refine blk_alloc ?_ _)); refine blk_put (cs := #[.slice Ao23 t295.length co23, .int .i64 x295001_1]) ?_ 1 _ rfl; (with_reducible repeat (first | refine blk_drewN ?_ _ | refine blk_drew ?_ | refine blk_alloc ?_ _)); refine blk_put (cs := #[.slice Ao20 x295000_1.length co20, .int .i64 x295001_1]) ?_ 0 _ rfl; (with_reducible repeat (first | refine blk_drewN ?_ _ | refine blk_drew ?_ | refine blk_alloc ?_ _)); refine blk_far ?_ NB294_301.out _; (with_reducible repeat (first | refine blk_drewN ?_ _ | refine blk_drew ?_ | refine blk_alloc ?_ _)); refine blk_far ?_ NB294_301.out _; (with_reducible repeat (first | refine blk_drewN ?_ _ | refine blk_drew ?_ | refine blk_alloc ?_ _)); exact BK294.out⟩, ⟨be_ HB.out⟩⟩
     ·rw [if_neg c17] at H
      exact absurd H (by simp)
    ·rw [if_neg c15] at H
     have c15b0 : decide (x9_1 < (wrap64 (1 + (Go.bits .and .i64 a1 7)))) = false := decide_eq_false c15
     clear c15
     replace H := Option.bind_eq_some_iff.mp H
     obtain ⟨t302, A280, H⟩ := H
     replace H : (heronrylaw15_OplistOps.l1 k1 t289 (wrap64 (1 + (Go.bits .and .i64 a1 7))) t302 0 0 t290 x295000_1 x295001_1) = some r := H
     have A28 := am_ A280
     clear A280
     have H' := am_ H
     clear H
     have hnb29 := NB293_294.out
     have hnc29 := NB294_293.out
     have hcz30_0 : wr.cell? ⟨gb293, 0, none⟩ = some (.slice Ao10 t290.length co10) := (blk_cell BK293.out 0).trans rfl
     have hfz30_0 := blk_frozen BK293.out 0
     have hcz31_0 : wr.cell? ⟨gb294, 0, none⟩ = some (u295000) := (blk_cell BK294.out 0).trans rfl
     have hcz31_1 : wr.cell? ⟨gb294, 1, none⟩ = some (.int .i64 x295001_1) := (blk_cell BK294.out 1).trans rfl
     have hfz31_0 := blk_frozen BK294.out 0
     have hfz31_1 := blk_frozen BK294.out 1
     obtain ⟨Ao32, co32, eo32⟩ := Kd.R_slice HO_295000.out
     subst eo32
     go_wp2_with (first | (go_at_call 19; (with_reducible refine (oplist_Ops.calls _ _ t290 _ _ x295000_1 x295001_1 0 t302 _ ?side1 ?side2 ?side3 ?side4 A28.out).mono ?_); (case side1 => repeat (first | exact (Kd.R_reads' HO_294000.out).2.2 | (with_reducible refine Kd.C_alloc ?_ _) | (with_reducible refine Kd.C_drewN ?_ _) | (with_reducible refine Kd.C_drew ?_))); (case side2 => exact (Kd.R_reads' HO_294000.out).2.1); (case side3 => repeat (first | exact (Kd.R_reads' HO_295000.out).2.2 | (with_reducible refine Kd.C_alloc ?_ _) | (with_reducible refine Kd.C_drewN ?_ _) | (with_reducible refine Kd.C_drew ?_))); (case side4 => exact (Kd.R_reads' HO_295000.out).2.1); rintro e w33 ⟨v303, rfl, ho0, hb⟩; have n0_ := am_ (Kd.R_below (ro_ HO_294000.out) hb); have n1_ := am_ (Kd.R_below (ro_ HO_295000.out) hb); have n2_ := am_ (Kd.R_lower ho0 (below_size (be_ HB.out))); have n3_ := am_ (bb_ BK293.out hb); have n4_ := am_ (bb_ BK294.out hb); have n5_ := am_ (below_step (be_ HB.out) hb); clear HO_294000; clear HO_295000; clear BK293; clear BK294; clear HB; have HO_294000 := n0_; have HO_295000 := n1_; have HO304 := n2_; have BK293 := n3_; have BK294 := n4_; have HB := n5_; clear n0_ n1_ n2_ n3_ n4_ n5_; (try clear hb); (try clear hb2); (try clear hk); (try clear hi); (try clear ho0)))
     repeat (go_quiet (first | (go_at_call 19; (with_reducible refine (oplist_Ops.calls _ _ t290 _ _ x295000_1 x295001_1 0 t302 _ ?side1 ?side2 ?side3 ?side4 A28.out).mono ?_); (case side1 => repeat (first | exact (Kd.R_reads' HO_294000.out).2.2 | (with_reducible refine Kd.C_alloc ?_ _) | (with_reducible refine Kd.C_drewN ?_ _) | (with_reducible refine Kd.C_drew ?_))); (case side2 => exact (Kd.R_reads' HO_294000.out).2.1); (case side3 => repeat (first | exact (Kd.R_reads' HO_295000.out).2.2 | (with_reducible refine Kd.C_alloc ?_ _) | (with_reducible refine Kd.C_drewN ?_ _) | (with_reducible refine Kd.C_drew ?_))); (case side4 => exact (Kd.R_reads' HO_295000.out).2.1); rintro e w33 ⟨v303, rfl, ho0, hb⟩; have n0_ := am_ (Kd.R_below (ro_ HO_294000.out) hb); have n1_ := am_ (Kd.R_below (ro_ HO_295000.out) hb); have n2_ := am_ (Kd.R_lower ho0 (below_size (be_ HB.out))); have n3_ := am_ (bb_ BK293.out hb); have n4_ := am_ (bb_ BK294.out hb); have n5_ := am_ (below_step (be_ HB.out) hb); clear HO_294000; clear HO_295000; clear BK293; clear BK294; clear HB; have HO_294000 := n0_; have HO_295000 := n1_; have HO304 := n2_; have BK293 := n3_; have BK294 := n4_; have HB := n5_; clear n0_ n1_ n2_ n3_ n4_ n5_; (try clear hb); (try clear hb2); (try clear hk); (try clear hi); (try clear ho0))); try go_wp2_with (first | (go_at_call 19; (with_reducible refine (oplist_Ops.calls _ _ t290 _ _ x295000_1 x295001_1 0 t302 _ ?side1 ?side2 ?side3 ?side4 A28.out).mono ?_); (case side1 => repeat (first | exact (Kd.R_reads' HO_294000.out).2.2 | (with_reducible refine Kd.C_alloc ?_ _) | (with_reducible refine Kd.C_drewN ?_ _) | (with_reducible refine Kd.C_drew ?_))); (case side2 => exact (Kd.R_reads' HO_294000.out).2.1); (case side3 => repeat (first | exact (Kd.R_reads' HO_295000.out).2.2 | (with_reducible refine Kd.C_alloc ?_ _) | (with_reducible refine Kd.C_drewN ?_ _) | (with_reducible refine Kd.C_drew ?_))); (case side4 => exact (Kd.R_reads' HO_295000.out).2.1); rintro e w33 ⟨v303, rfl, ho0, hb⟩; have n0_ := am_ (Kd.R_below (ro_ HO_294000.out) hb); have n1_ := am_ (Kd.R_below (ro_ HO_295000.out) hb); have n2_ := am_ (Kd.R_lower ho0 (below_size (be_ HB.out))); have n3_ := am_ (bb_ BK293.out hb); have n4_ := am_ (bb_ BK294.out hb); have n5_ := am_ (below_step (be_ HB.out) hb); clear HO_294000; clear HO_295000; clear BK293; clear BK294; clear HB; have HO_294000 := n0_; have HO_295000 := n1_; have HO304 := n2_; have BK293 := n3_; have BK294 := n4_; have HB := n5_; clear n0_ n1_ n2_ n3_ n4_ n5_; (try clear hb); (try clear hb2); (try clear hk); (try clear hi); (try clear ho0))))
     go_loopg [14, 15] k1 (fun kq v14 v15 w' => ∃ (x14_2 : Int) (x15_2 : Int), v14 = .int .i64 x14_2 ∧ v15 = .int .i64 x15_2 ∧ Aside0 (heronrylaw15_OplistOps.l1 kq t289 (wrap64 (1 + (Go.bits .and .i64 a1 7))) t302 x14_2 x15_2 t290 x295000_1 x295001_1 = some r) ∧ Aside0 (kq ≤ k1) ∧ Aside0 (Kd.R k55 55 w' w.heap.size (fun _ => True) v303 t302) ∧ Aside0 (Kd.R k33 33 w' w.heap.size (fun _ => True) (.slice Ao10 t290.length co10) t290) ∧ Aside0 (Kd.R k95 95 w' w.heap.size (fun _ => True) (.slice Ao32 x295000_1.length co32) x295000_1) ∧ Aside0 (w'.heap[gb293]? = some (.cells #[(.slice Ao10 t290.length co10)] 26 (0, 0))) ∧ Aside0 (w'.heap[gb294]? = some (.cells #[(.slice Ao32 x295000_1.length co32), .int .i64 x295001_1] 48 (0, 0))) ∧ Aside0 (Below w.heap.size w w'))
     case atStart => exact ⟨(0), (0), (by first | rfl | (simp; done) | (simp [*]; done)), (by first | rfl | (simp; done) | (simp [*]; done)), H', ⟨Nat.le_refl _⟩, ⟨ro_ HO304.out⟩, ⟨ro_ HO_294000.out⟩, ⟨ro_ HO_295000.out⟩, ⟨bk_ BK293.out⟩, ⟨bk_ BK294.out⟩, ⟨be_ HB.out⟩⟩
     case round =>
      clear H'
      try clear c1
      try clear c2
      try clear p2
      try clear c4
      try clear c4b0
      try clear c4b1
      try clear c6
      try clear p6
      try clear c13
      try clear c15
      try clear c15b0
      try clear c17
      try clear c17b0
      try clear c17b1
      try clear c18
      try clear c24
      try clear c25
      try clear c29
      try clear hcz11_0
      try clear hcz14_0
      try clear hcz14_1
      try clear hcz19_0
      try clear hcz19_1
      try clear hcz26_0
      try clear hcz26_1
      try clear hcz27_0
      try clear hcz27_1
      try clear hcz30_0
      try clear hcz31_0
      try clear hcz31_1
      try clear hfz11_0
      try clear hfz14_0
      try clear hfz14_1
      try clear hfz19_0
      try clear hfz19_1
      try clear hfz26_0
      try clear hfz26_1
      try clear hfz27_0
      try clear hfz27_1
      try clear hfz30_0
      try clear hfz31_0
      try clear hfz31_1
      try clear p2
      try clear p6
      obtain ⟨x14_2, x15_2, rfl, rfl, HA, HK2, HO_13, HO_294000, HO_295000, BK293, BK294, HB⟩ := hrel
      cases gk with
      | zero => exact absurd HA.out (by simp [heronrylaw15_OplistOps.l1])
      | succ k2 =>
       have H := HA.out
       clear HA
       simp only [heronrylaw15_OplistOps.l1] at H
       by_cases c34 : x15_2 < (wrap64 (1 + (Go.bits .and .i64 a1 7)))
       ·rw [if_pos c34] at H
        have c34b0 : decide (x15_2 < (wrap64 (1 + (Go.bits .and .i64 a1 7)))) = true := decide_eq_true c34
        clear c34
        replace H := Option.bind_eq_some_iff.mp H
        obtain ⟨t305, A350, H⟩ := H
        replace H : ((tree_Within.f x295000_1 x295001_1 x15_2 0).bind fun t308 => (if t308 = true then (heronrylaw15_OplistOps.l1 k2 t289 (wrap64 (1 + (Go.bits .and .i64 a1 7))) t302 (wrap64 (x14_2 + (t305.length : Int))) (wrap64 (x15_2 + 1)) t290 x295000_1 x295001_1) else (heronrylaw15_OplistOps.l1 k2 t289 (wrap64 (1 + (Go.bits .and .i64 a1 7))) t302 x14_2 (wrap64 (x15_2 + 1)) t290 x295000_1 x295001_1))) = some r := H
        have A35 := am_ A350
        clear A350
        replace H := Option.bind_eq_some_iff.mp H
        obtain ⟨t308, A360, H⟩ := H
        replace H : (if t308 = true then (heronrylaw15_OplistOps.l1 k2 t289 (wrap64 (1 + (Go.bits .and .i64 a1 7))) t302 (wrap64 (x14_2 + (t305.length : Int))) (wrap64 (x15_2 + 1)) t290 x295000_1 x295001_1) else (heronrylaw15_OplistOps.l1 k2 t289 (wrap64 (1 + (Go.bits .and .i64 a1 7))) t302 x14_2 (wrap64 (x15_2 + 1)) t290 x295000_1 x295001_1)) = some r := H
        have A36 := am_ A360
        clear A360
        by_cases c37 : t308 = true
        ·subst c37
         have H1 : (heronrylaw15_OplistOps.l1 k2 t289 (wrap64 (1 + (Go.bits .and .i64 a1 7))) t302 (wrap64 (x14_2 + (t305.length : Int))) (wrap64 (x15_2 + 1)) t290 x295000_1 x295001_1) = some r := by rw [if_pos rfl] at H; exact H
         clear H
         have H := H1
         clear H1
         have H' := am_ H
         clear H
         have hnb38 := NB293_294.out
         have hnc38 := NB294_293.out
         have hcz39_0 : wr.cell? ⟨gb293, 0, none⟩ = some (.slice Ao10 t290.length co10) := (blk_cell BK293.out 0).trans rfl
         have hfz39_0 := blk_frozen BK293.out 0
         go_wp2_with (first | (go_at_call 11; (with_reducible refine (oplist_Open.calls _ _ t290 x15_2 t305 _ ?side1 ?side2 A35.out).mono ?_); (case side1 => repeat (first | exact (Kd.R_reads' HO_294000.out).2.2 | (with_reducible refine Kd.C_alloc ?_ _) | (with_reducible refine Kd.C_drewN ?_ _) | (with_reducible refine Kd.C_drew ?_))); (case side2 => exact (Kd.R_reads' HO_294000.out).2.1); rintro e w40 ⟨v306, rfl, ho0, hb⟩; have n0_ := am_ (Kd.R_below (ro_ HO_13.out) hb); have n1_ := am_ (Kd.R_elder' (ro_ HO_294000.out) (Kd.R_base ho0) hb); have n2_ := am_ (Kd.R_below (ro_ HO_295000.out) hb); have n3_ := am_ (Kd.R_lower (Kd.R_new' ho0 (Kd.R_lt (ro_ HO_294000.out))) (below_size (be_ HB.out))); have n4_ := am_ (bb_ BK293.out hb); have n5_ := am_ (bb_ BK294.out hb); have n6_ := am_ (below_step (be_ HB.out) hb); clear HO_13; clear HO_294000; clear HO_295000; clear BK293; clear BK294; clear HB; have HO_13 := n0_; have HO_294000 := n1_; have HO_295000 := n2_; have HO307 := n3_; have BK293 := n4_; have BK294 := n5_; have HB := n6_; clear n0_ n1_ n2_ n3_ n4_ n5_ n6_; (try clear hb); (try clear hb2); (try clear hk); (try clear hi); (try clear ho0); have hcz41_0 : w40.cell? ⟨gb294, 0, none⟩ = some (.slice Ao32 x295000_1.length co32) := (blk_cell BK294.out 0).trans rfl; have hcz41_1 : w40.cell? ⟨gb294, 1, none⟩ = some (.int .i64 x295001_1) := (blk_cell BK294.out 1).trans rfl; have hfz41_0 := blk_frozen BK294.out 0; have hfz41_1 := blk_frozen BK294.out 1) | (go_at_call 20; (with_reducible refine (tree_Within.calls _ _ x295000_1 x295001_1 x15_2 0 true _ ?side1 ?side2 A36.out).mono ?_); (case side1 => repeat (first | exact (Kd.R_reads' HO_295000.out).2.2 | (with_reducible refine Kd.C_alloc ?_ _) | (with_reducible refine Kd.C_drewN ?_ _) | (with_reducible refine Kd.C_drew ?_))); (case side2 => exact (Kd.R_reads' HO_295000.out).2.1); rintro e w42 ⟨rfl, hb⟩; have n0_ := am_ (Kd.R_below (ro_ HO_13.out) hb); have n1_ := am_ (Kd.R_below (ro_ HO_294000.out) hb); have n2_ := am_ (Kd.R_below (ro_ HO_295000.out) hb); have n3_ := am_ (Kd.R_below (ro_ HO307.out) hb); have n4_ := am_ (bb_ BK293.out hb); have n5_ := am_ (bb_ BK294.out hb); have n6_ := am_ (below_step (be_ HB.out) hb); clear HO_13; clear HO_294000; clear HO_295000; clear HO307; clear BK293; clear BK294; clear HB; have HO_13 := n0_; have HO_294000 := n1_; have HO_295000 := n2_; have HO307 := n3_; have BK293 := n4_; have BK294 := n5_; have HB := n6_; clear n0_ n1_ n2_ n3_ n4_ n5_ n6_; (try clear hb); (try clear hb2); (try clear hk); (try clear hi); obtain ⟨Ao43, co43, eo43⟩ := Kd.R_slice HO307.out; subst eo43))
         repeat (go_quiet (first | (go_at_call 11; (with_reducible refine (oplist_Open.calls _ _ t290 x15_2 t305 _ ?side1 ?side2 A35.out).mono ?_); (case side1 => repeat (first | exact (Kd.R_reads' HO_294000.out).2.2 | (with_reducible refine Kd.C_alloc ?_ _) | (with_reducible refine Kd.C_drewN ?_ _) | (with_reducible refine Kd.C_drew ?_))); (case side2 => exact (Kd.R_reads' HO_294000.out).2.1); rintro e w40 ⟨v306, rfl, ho0, hb⟩; have n0_ := am_ (Kd.R_below (ro_ HO_13.out) hb); have n1_ := am_ (Kd.R_elder' (ro_ HO_294000.out) (Kd.R_base ho0) hb); have n2_ := am_ (Kd.R_below (ro_ HO_295000.out) hb); have n3_ := am_ (Kd.R_lower (Kd.R_new' ho0 (Kd.R_lt (ro_ HO_294000.out))) (below_size (be_ HB.out))); have n4_ := am_ (bb_ BK293.out hb); have n5_ := am_ (bb_ BK294.out hb); have n6_ := am_ (below_step (be_ HB.out) hb); clear HO_13; clear HO_294000; clear HO_295000; clear BK293; clear BK294; clear HB; have HO_13 := n0_; have HO_294000 := n1_; have HO_295000 := n2_; have HO307 := n3_; have BK293 := n4_; have BK294 := n5_; have HB := n6_; clear n0_ n1_ n2_ n3_ n4_ n5_ n6_; (try clear hb); (try clear hb2); (try clear hk); (try clear hi); (try clear ho0); have hcz41_0 : w40.cell? ⟨gb294, 0, none⟩ = some (.slice Ao32 x295000_1.length co32) := (blk_cell BK294.out 0).trans rfl; have hcz41_1 : w40.cell? ⟨gb294, 1, none⟩ = some (.int .i64 x295001_1) := (blk_cell BK294.out 1).trans rfl; have hfz41_0 := blk_frozen BK294.out 0; have hfz41_1 := blk_frozen BK294.out 1) | (go_at_call 20; (with_reducible refine (tree_Within.calls _ _ x295000_1 x295001_1 x15_2 0 true _ ?side1 ?side2 A36.out).mono ?_); (case side1 => repeat (first | exact (Kd.R_reads' HO_295000.out).2.2 | (with_reducible refine Kd.C_alloc ?_ _) | (with_reducible refine Kd.C_drewN ?_ _) | (with_reducible refine Kd.C_drew ?_))); (case side2 => exact (Kd.R_reads' HO_295000.out).2.1); rintro e w42 ⟨rfl, hb⟩; have n0_ := am_ (Kd.R_below (ro_ HO_13.out) hb); have n1_ := am_ (Kd.R_below (ro_ HO_294000.out) hb); have n2_ := am_ (Kd.R_below (ro_ HO_295000.out) hb); have n3_ := am_ (Kd.R_below (ro_ HO307.out) hb); have n4_ := am_ (bb_ BK293.out hb); have n5_ := am_ (bb_ BK294.out hb); have n6_ := am_ (below_step (be_ HB.out) hb); clear HO_13; clear HO_294000; clear HO_295000; clear HO307; clear BK293; clear BK294; clear HB; have HO_13 := n0_; have HO_294000 := n1_; have HO_295000 := n2_; have HO307 := n3_; have BK293 := n4_; have BK294 := n5_; have HB := n6_; clear n0_ n1_ n2_ n3_ n4_ n5_ n6_; (try clear hb); (try clear hb2); (try clear hk); (try clear hi); obtain ⟨Ao43, co43, eo43⟩ := Kd.R_slice HO307.out; subst eo43)); try go_wp2_with (first | (go_at_call 11; (with_reducible refine (oplist_Open.calls _ _ t290 x15_2 t305 _ ?side1 ?side2 A35.out).mono ?_); (case side1 => repeat (first | exact (Kd.R_reads' HO_294000.out).2.2 | (with_reducible refine Kd.C_alloc ?_ _) | (with_reducible refine Kd.C_drewN ?_ _) | (with_reducible refine Kd.C_drew ?_))); (case side2 => exact (Kd.R_reads' HO_294000.out).2.1); rintro e w40 ⟨v306, rfl, ho0, hb⟩; have n0_ := am_ (Kd.R_below (ro_ HO_13.out) hb); have n1_ := am_ (Kd.R_elder' (ro_ HO_294000.out) (Kd.R_base ho0) hb); have n2_ := am_ (Kd.R_below (ro_ HO_295000.out) hb); have n3_ := am_ (Kd.R_lower (Kd.R_new' ho0 (Kd.R_lt (ro_ HO_294000.out))) (below_size (be_ HB.out))); have n4_ := am_ (bb_ BK293.out hb); have n5_ := am_ (bb_ BK294.out hb); have n6_ := am_ (below_step (be_ HB.out) hb); clear HO_13; clear HO_294000; clear HO_295000; clear BK293; clear BK294; clear HB; have HO_13 := n0_; have HO_294000 := n1_; have HO_295000 := n2_; have HO307 := n3_; have BK293 := n4_; have BK294 := n5_; have HB := n6_; clear n0_ n1_ n2_ n3_ n4_ n5_ n6_; (try clear hb); (try clear hb2); (try clear hk); (try clear hi); (try clear ho0); have hcz41_0 : w40.cell? ⟨gb294, 0, none⟩ = some (.slice Ao32 x295000_1.length co32) := (blk_cell BK294.out 0).trans rfl; have hcz41_1 : w40.cell? ⟨gb294, 1, none⟩ = some (.int .i64 x295001_1) := (blk_cell BK294.out 1).trans rfl; have hfz41_0 := blk_frozen BK294.out 0; have hfz41_1 := blk_frozen BK294.out 1) | (go_at_call 20; (with_reducible refine (tree_Within.calls _ _ x295000_1 x295001_1 x15_2 0 true _ ?side1 ?side2 A36.out).mono ?_); (case side1 => repeat (first | exact (Kd.R_reads' HO_295000.out).2.2 | (with_reducible refine Kd.C_alloc ?_ _) | (with_reducible refine Kd.C_drewN ?_ _) | (with_reducible refine Kd.C_drew ?_))); (case side2 => exact (Kd.R_reads' HO_295000.out).2.1); rintro e w42 ⟨rfl, hb⟩; have n0_ := am_ (Kd.R_below (ro_ HO_13.out) hb); have n1_ := am_ (Kd.R_below (ro_ HO_294000.out) hb); have n2_ := am_ (Kd.R_below (ro_ HO_295000.out) hb); have n3_ := am_ (Kd.R_below (ro_ HO307.out) hb); have n4_ := am_ (bb_ BK293.out hb); have n5_ := am_ (bb_ BK294.out hb); have n6_ := am_ (below_step (be_ HB.out) hb); clear HO_13; clear HO_294000; clear HO_295000; clear HO307; clear BK293; clear BK294; clear HB; have HO_13 := n0_; have HO_294000 := n1_; have HO_295000 := n2_; have HO307 := n3_; have BK293 := n4_; have BK294 := n5_; have HB := n6_; clear n0_ n1_ n2_ n3_ n4_ n5_ n6_; (try clear hb); (try clear hb2); (try clear hk); (try clear hi); obtain ⟨Ao43, co43, eo43⟩ := Kd.R_slice HO307.out; subst eo43)))
         go_roundg k2
         case measure => have := HK1.out; have := HK2.out; omega
         case rel => exact ⟨(wrap64 (x14_2 + (t305.length : Int))), (wrap64 (x15_2 + 1)), (by first | rfl | (simp; done) | (simp [*]; done)), (by first | rfl | (simp; done) | (simp [*]; done)), H', ⟨by have := HK1.out; have := HK2.out; omega⟩, ⟨ro_ HO_13.out⟩, ⟨by (with_reducible repeat (first | apply Kd.R_alloc | apply Kd.R_drewN | apply Kd.R_drew)); exact Kd.R_mono HO_294000.out (fun _ hk => trivial)⟩, ⟨ro_ HO_295000.out⟩, ⟨bk_ BK293.out⟩, ⟨bk_ BK294.out⟩, ⟨be_ HB.out⟩⟩
        ·replace c37 := Bool.eq_false_iff.mpr c37
         subst c37
         have H1 : (heronrylaw15_OplistOps.l1 k2 t289 (wrap64 (1 + (Go.bits .and .i64 a1 7))) t302 x14_2 (wrap64 (x15_2 + 1)) t290 x295000_1 x295001_1) = some r := by rw [if_neg (show ¬ (false = true) by decide)] at H; exact H
         clear H
         have H := H1
         clear H1
         have H' := am_ H
         clear H
         have hnb44 := NB293_294.out
         have hnc44 := NB294_293.out
         have hcz45_0 : wr.cell? ⟨gb293, 0, none⟩ = some (.slice Ao10 t290.length co10) := (blk_cell BK293.out 0).trans rfl
         have hfz45_0 := blk_frozen BK293.out 0
         go_wp2_with (first | (go_at_call 11; (with_reducible refine (oplist_Open.calls _ _ t290 x15_2 t305 _ ?side1 ?side2 A35.out).mono ?_); (case side1 => repeat (first | exact (Kd.R_reads' HO_294000.out).2.2 | (with_reducible refine Kd.C_alloc ?_ _) | (with_reducible refine Kd.C_drewN ?_ _) | (with_reducible refine Kd.C_drew ?_))); (case side2 => exact (Kd.R_reads' HO_294000.out).2.1); rintro e w46 ⟨v306, rfl, ho0, hb⟩; have n0_ := am_ (Kd.R_below (ro_ HO_13.out) hb); have n1_ := am_ (Kd.R_elder' (ro_ HO_294000.out) (Kd.R_base ho0) hb); have n2_ := am_ (Kd.R_below (ro_ HO_295000.out) hb); have n3_ := am_ (Kd.R_lower (Kd.R_new' ho0 (Kd.R_lt (ro_ HO_294000.out))) (below_size (be_ HB.out))); have n4_ := am_ (bb_ BK293.out hb); have n5_ := am_ (bb_ BK294.out hb); have n6_ := am_ (below_step (be_ HB.out) hb); clear HO_13; clear HO_294000; clear HO_295000; clear BK293; clear BK294; clear HB; have HO_13 := n0_; have HO_294000 := n1_; have HO_295000 := n2_; have HO307 := n3_; have BK293 := n4_; have BK294 := n5_; have HB := n6_; clear n0_ n1_ n2_ n3_ n4_ n5_ n6_; (try clear hb); (try clear hb2); (try clear hk); (try clear hi); (try clear ho0); have hcz47_0 : w46.cell? ⟨gb294, 0, none⟩ = some (.slice Ao32 x295000_1.length co32) := (blk_cell BK294.out 0).trans rfl; have hcz47_1 : w46.cell? ⟨gb294, 1, none⟩ = some (.int .i64 x295001_1) := (blk_cell BK294.out 1).trans rfl; have hfz47_0 := blk_frozen BK294.out 0; have hfz47_1 := blk_frozen BK294.out 1) | (go_at_call 20; (with_reducible refine (tree_Within.calls _ _ x295000_1 x295001_1 x15_2 0 false _ ?side1 ?side2 A36.out).mono ?_); (case side1 => repeat (first | exact (Kd.R_reads' HO_295000.out).2.2 | (with_reducible refine Kd.C_alloc ?_ _) | (with_reducible refine Kd.C_drewN ?_ _) | (with_reducible refine Kd.C_drew ?_))); (case side2 => exact (Kd.R_reads' HO_295000.out).2.1); rintro e w48 ⟨rfl, hb⟩; have n0_ := am_ (Kd.R_below (ro_ HO_13.out) hb); have n1_ := am_ (Kd.R_below (ro_ HO_294000.out) hb); have n2_ := am_ (Kd.R_below (ro_ HO_295000.out) hb); have n3_ := am_ (Kd.R_below (ro_ HO307.out) hb); have n4_ := am_ (bb_ BK293.out hb); have n5_ := am_ (bb_ BK294.out hb); have n6_ := am_ (below_step (be_ HB.out) hb); clear HO_13; clear HO_294000; clear HO_295000; clear HO307; clear BK293; clear BK294; clear HB; have HO_13 := n0_; have HO_294000 := n1_; have HO_295000 := n2_; have HO307 := n3_; have BK293 := n4_; have BK294 := n5_; have HB := n6_; clear n0_ n1_ n2_ n3_ n4_ n5_ n6_; (try clear hb); (try clear hb2); (try clear hk); (try clear hi)))
         repeat (go_quiet (first | (go_at_call 11; (with_reducible refine (oplist_Open.calls _ _ t290 x15_2 t305 _ ?side1 ?side2 A35.out).mono ?_); (case side1 => repeat (first | exact (Kd.R_reads' HO_294000.out).2.2 | (with_reducible refine Kd.C_alloc ?_ _) | (with_reducible refine Kd.C_drewN ?_ _) | (with_reducible refine Kd.C_drew ?_))); (case side2 => exact (Kd.R_reads' HO_294000.out).2.1); rintro e w46 ⟨v306, rfl, ho0, hb⟩; have n0_ := am_ (Kd.R_below (ro_ HO_13.out) hb); have n1_ := am_ (Kd.R_elder' (ro_ HO_294000.out) (Kd.R_base ho0) hb); have n2_ := am_ (Kd.R_below (ro_ HO_295000.out) hb); have n3_ := am_ (Kd.R_lower (Kd.R_new' ho0 (Kd.R_lt (ro_ HO_294000.out))) (below_size (be_ HB.out))); have n4_ := am_ (bb_ BK293.out hb); have n5_ := am_ (bb_ BK294.out hb); have n6_ := am_ (below_step (be_ HB.out) hb); clear HO_13; clear HO_294000; clear HO_295000; clear BK293; clear BK294; clear HB; have HO_13 := n0_; have HO_294000 := n1_; have HO_295000 := n2_; have HO307 := n3_; have BK293 := n4_; have BK294 := n5_; have HB := n6_; clear n0_ n1_ n2_ n3_ n4_ n5_ n6_; (try clear hb); (try clear hb2); (try clear hk); (try clear hi); (try clear ho0); have hcz47_0 : w46.cell? ⟨gb294, 0, none⟩ = some (.slice Ao32 x295000_1.length co32) := (blk_cell BK294.out 0).trans rfl; have hcz47_1 : w46.cell? ⟨gb294, 1, none⟩ = some (.int .i64 x295001_1) := (blk_cell BK294.out 1).trans rfl; have hfz47_0 := blk_frozen BK294.out 0; have hfz47_1 := blk_frozen BK294.out 1) | (go_at_call 20; (with_reducible refine (tree_Within.calls _ _ x295000_1 x295001_1 x15_2 0 false _ ?side1 ?side2 A36.out).mono ?_); (case side1 => repeat (first | exact (Kd.R_reads' HO_295000.out).2.2 | (with_reducible refine Kd.C_alloc ?_ _) | (with_reducible refine Kd.C_drewN ?_ _) | (with_reducible refine Kd.C_drew ?_))); (case side2 => exact (Kd.R_reads' HO_295000.out).2.1); rintro e w48 ⟨rfl, hb⟩; have n0_ := am_ (Kd.R_below (ro_ HO_13.out) hb); have n1_ := am_ (Kd.R_below (ro_ HO_294000.out) hb); have n2_ := am_ (Kd.R_below (ro_ HO_295000.out) hb); have n3_ := am_ (Kd.R_below (ro_ HO307.out) hb); have n4_ := am_ (bb_ BK293.out hb); have n5_ := am_ (bb_ BK294.out hb); have n6_ := am_ (below_step (be_ HB.out) hb); clear HO_13; clear HO_294000; clear HO_295000; clear HO307; clear BK293; clear BK294; clear HB; have HO_13 := n0_; have HO_294000 := n1_; have HO_295000 := n2_; have HO307 := n3_; have BK293 := n4_; have BK294 := n5_; have HB := n6_; clear n0_ n1_ n2_ n3_ n4_ n5_ n6_; (try clear hb); (try clear hb2); (try clear hk); (try clear hi))); try go_wp2_with (first | (go_at_call 11; (with_reducible refine (oplist_Open.calls _ _ t290 x15_2 t305 _ ?side1 ?side2 A35.out).mono ?_); (case side1 => repeat (first | exact (Kd.R_reads' HO_294000.out).2.2 | (with_reducible refine Kd.C_alloc ?_ _) | (with_reducible refine Kd.C_drewN ?_ _) | (with_reducible refine Kd.C_drew ?_))); (case side2 => exact (Kd.R_reads' HO_294000.out).2.1); rintro e w46 ⟨v306, rfl, ho0, hb⟩; have n0_ := am_ (Kd.R_below (ro_ HO_13.out) hb); have n1_ := am_ (Kd.R_elder' (ro_ HO_294000.out) (Kd.R_base ho0) hb); have n2_ := am_ (Kd.R_below (ro_ HO_295000.out) hb); have n3_ := am_ (Kd.R_lower (Kd.R_new' ho0 (Kd.R_lt (ro_ HO_294000.out))) (below_size (be_ HB.out))); have n4_ := am_ (bb_ BK293.out hb); have n5_ := am_ (bb_ BK294.out hb); have n6_ := am_ (below_step (be_ HB.out) hb); clear HO_13; clear HO_294000; clear HO_295000; clear BK293; clear BK294; clear HB; have HO_13 := n0_; have HO_294000 := n1_; have HO_295000 := n2_; have HO307 := n3_; have BK293 := n4_; have BK294 := n5_; have HB := n6_; clear n0_ n1_ n2_ n3_ n4_ n5_ n6_; (try clear hb); (try clear hb2); (try clear hk); (try clear hi); (try clear ho0); have hcz47_0 : w46.cell? ⟨gb294, 0, none⟩ = some (.slice Ao32 x295000_1.length co32) := (blk_cell BK294.out 0).trans rfl; have hcz47_1 : w46.cell? ⟨gb294, 1, none⟩ = some (.int .i64 x295001_1) := (blk_cell BK294.out 1).trans rfl; have hfz47_0 := blk_frozen BK294.out 0; have hfz47_1 := blk_frozen BK294.out 1) | (go_at_call 20; (with_reducible refine (tree_Within.calls _ _ x295000_1 x295001_1 x15_2 0 false _ ?side1 ?side2 A36.out).mono ?_); (case side1 => repeat (first | exact (Kd.R_reads' HO_295000.out).2.2 | (with_reducible refine Kd.C_alloc ?_ _) | (with_reducible refine Kd.C_drewN ?_ _) | (with_reducible refine Kd.C_drew ?_))); (case side2 => exact (Kd.R_reads' HO_295000.out).2.1); rintro e w48 ⟨rfl, hb⟩; have n0_ := am_ (Kd.R_below (ro_ HO_13.out) hb); have n1_ := am_ (Kd.R_below (ro_ HO_294000.out) hb); have n2_ := am_ (Kd.R_below (ro_ HO_295000.out) hb); have n3_ := am_ (Kd.R_below (ro_ HO307.out) hb); have n4_ := am_ (bb_ BK293.out hb); have n5_ := am_ (bb_ BK294.out hb); have n6_ := am_ (below_step (be_ HB.out) hb); clear HO_13; clear HO_294000; clear HO_295000; clear HO307; clear BK293; clear BK294; clear HB; have HO_13 := n0_; have HO_294000 := n1_; have HO_295000 := n2_; have HO307 := n3_; have BK293 := n4_; have BK294 := n5_; have HB := n6_; clear n0_ n1_ n2_ n3_ n4_ n5_ n6_; (try clear hb); (try clear hb2); (try clear hk); (try clear hi))))
         go_roundg k2
         case measure => have := HK1.out; have := HK2.out; omega
         case rel => exact ⟨(x14_2), (wrap64 (x15_2 + 1)), (by first | rfl | (simp; done) | (simp [*]; done)), (by first | rfl | (simp; done) | (simp [*]; done)), H', ⟨by have := HK1.out; have := HK2.out; omega⟩, ⟨ro_ HO_13.out⟩, ⟨by (with_reducible repeat (first | apply Kd.R_alloc | apply Kd.R_drewN | apply Kd.R_drew)); exact Kd.R_mono HO_294000.out (fun _ hk => trivial)⟩, ⟨ro_ HO_295000.out⟩, ⟨bk_ BK293.out⟩, ⟨bk_ BK294.out⟩, ⟨be_ HB.out⟩⟩
       ·rw [if_neg c34] at H
        have c34b0 : decide (x15_2 < (wrap64 (1 + (Go.bits .and .i64 a1 7)))) = false := decide_eq_false c34
        clear c34
        replace H := Option.bind_eq_some_iff.mp H
        obtain ⟨t309, A490, H⟩ := H
        replace H : ((oplist_Open.f t290 (wrap64 ((wrap64 (1 + (Go.bits .and .i64 a1 7))) - 1))).bind fun t312 => (if (wrap64 (1 + (Go.bits .and .i64 a1 7))) > 1 then (if (t309.length : Int) = (t312.length : Int) then (heronrylaw15_OplistOps.j2 k2 t289 (wrap64 (1 + (Go.bits .and .i64 a1 7))) t309 t312 ((t302.length : Int) != x14_2) t290 x295000_1 x295001_1) else (none)) else (heronrylaw15_OplistOps.j2 k2 t289 (wrap64 (1 + (Go.bits .and .i64 a1 7))) t309 t312 ((t302.length : Int) != x14_2) t290 x295000_1 x295001_1))) = some r := H
        have A49 := am_ A490
        clear A490
        replace H := Option.bind_eq_some_iff.mp H
        obtain ⟨t312, A500, H⟩ := H
        replace H : (if (wrap64 (1 + (Go.bits .and .i64 a1 7))) > 1 then (if (t309.length : Int) = (t312.length : Int) then (heronrylaw15_OplistOps.j2 k2 t289 (wrap64 (1 + (Go.bits .and .i64 a1 7))) t309 t312 ((t302.length : Int) != x14_2) t290 x295000_1 x295001_1) else (none)) else (heronrylaw15_OplistOps.j2 k2 t289 (wrap64 (1 + (Go.bits .and .i64 a1 7))) t309 t312 ((t302.length : Int) != x14_2) t290 x295000_1 x295001_1)) = some r := H
        have A50 := am_ A500
        clear A500
        have HC51 := am_ H
        clear H
        have hnb52 := NB293_294.out
        have hnc52 := NB294_293.out
        have hcz53_0 : wr.cell? ⟨gb293, 0, none⟩ = some (.slice Ao10 t290.length co10) := (blk_cell BK293.out 0).trans rfl
        have hfz53_0 := blk_frozen BK293.out 0
        have hcz54_0 : wr.cell? ⟨gb294, 0, none⟩ = some (.slice Ao32 x295000_1.length co32) := (blk_cell BK294.out 0).trans rfl
        have hcz54_1 : wr.cell? ⟨gb294, 1, none⟩ = some (.int .i64 x295001_1) := (blk_cell BK294.out 1).trans rfl
        have hfz54_0 := blk_frozen BK294.out 0
        have hfz54_1 := blk_frozen BK294.out 1
        go_upto_region 24 with (first | (go_at_call 19; (with_reducible refine (oplist_Ops.calls _ _ t290 _ _ x295000_1 x295001_1 (wrap64 ((wrap64 (1 + (Go.bits .and .i64 a1 7))) - 1)) t309 _ ?side1 ?side2 ?side3 ?side4 A49.out).mono ?_); (case side1 => repeat (first | exact (Kd.R_reads' HO_294000.out).2.2 | (with_reducible refine Kd.C_alloc ?_ _) | (with_reducible refine Kd.C_drewN ?_ _) | (with_reducible refine Kd.C_drew ?_))); (case side2 => exact (Kd.R_reads' HO_294000.out).2.1); (case side3 => repeat (first | exact (Kd.R_reads' HO_295000.out).2.2 | (with_reducible refine Kd.C_alloc ?_ _) | (with_reducible refine Kd.C_drewN ?_ _) | (with_reducible refine Kd.C_drew ?_))); (case side4 => exact (Kd.R_reads' HO_295000.out).2.1); rintro e w55 ⟨v310, rfl, ho0, hb⟩; have n0_ := am_ (Kd.R_elder' (ro_ HO_13.out) (Kd.R_base ho0) hb); have n1_ := am_ (Kd.R_below (ro_ HO_294000.out) hb); have n2_ := am_ (Kd.R_below (ro_ HO_295000.out) hb); have n3_ := am_ (Kd.R_lower (Kd.R_new' ho0 (Kd.R_lt (ro_ HO_13.out))) (below_size (be_ HB.out))); have n4_ := am_ (bb_ BK293.out hb); have n5_ := am_ (bb_ BK294.out hb); have n6_ := am_ (below_step (be_ HB.out) hb); clear HO_13; clear HO_294000; clear HO_295000; clear BK293; clear BK294; clear HB; have HO_13 := n0_; have HO_294000 := n1_; have HO_295000 := n2_; have HO311 := n3_; have BK293 := n4_; have BK294 := n5_; have HB := n6_; clear n0_ n1_ n2_ n3_ n4_ n5_ n6_; (try clear hb); (try clear hb2); (try clear hk); (try clear hi); (try clear ho0); have hcz56_0 : w55.cell? ⟨gb293, 0, none⟩ = some (.slice Ao10 t290.length co10) := (blk_cell BK293.out 0).trans rfl; have hfz56_0 := blk_frozen BK293.out 0) | (go_at_call 11; (with_reducible refine (oplist_Open.calls _ _ t290 (wrap64 ((wrap64 (1 + (Go.bits .and .i64 a1 7))) - 1)) t312 _ ?side1 ?side2 A50.out).mono ?_); (case side1 => repeat (first | exact (Kd.R_reads' HO_294000.out).2.2 | (with_reducible refine Kd.C_alloc ?_ _) | (with_reducible refine Kd.C_drewN ?_ _) | (with_reducible refine Kd.C_drew ?_))); (case side2 => exact (Kd.R_reads' HO_294000.out).2.1); rintro e w57 ⟨v313, rfl, ho0, hb⟩; have n0_ := am_ (Kd.R_below (ro_ HO_13.out) hb); have n1_ := am_ (Kd.R_elder' (ro_ HO_294000.out) (Kd.R_base ho0) hb); have n2_ := am_ (Kd.R_below (ro_ HO_295000.out) hb); have n3_ := am_ (Kd.R_below (ro_ HO311.out) hb); have n4_ := am_ (Kd.R_lower (Kd.R_new' ho0 (Kd.R_lt (ro_ HO_294000.out))) (below_size (be_ HB.out))); have n5_ := am_ (bb_ BK293.out hb); have n6_ := am_ (bb_ BK294.out hb); have n7_ := am_ (below_step (be_ HB.out) hb); clear HO_13; clear HO_294000; clear HO_295000; clear HO311; clear BK293; clear BK294; clear HB; have HO_13 := n0_; have HO_294000 := n1_; have HO_295000 := n2_; have HO311 := n3_; have HO314 := n4_; have BK293 := n5_; have BK294 := n6_; have HB := n7_; clear n0_ n1_ n2_ n3_ n4_ n5_ n6_ n7_; (try clear hb); (try clear hb2); (try clear hk); (try clear hi); (try clear ho0)))
        repeat (go_quiet (first | (go_at_call 19; (with_reducible refine (oplist_Ops.calls _ _ t290 _ _ x295000_1 x295001_1 (wrap64 ((wrap64 (1 + (Go.bits .and .i64 a1 7))) - 1)) t309 _ ?side1 ?side2 ?side3 ?side4 A49.out).mono ?_); (case side1 => repeat (first | exact (Kd.R_reads' HO_294000.out).2.2 | (with_reducible refine Kd.C_alloc ?_ _) | (with_reducible refine Kd.C_drewN ?_ _) | (with_reducible refine Kd.C_drew ?_))); (case side2 => exact (Kd.R_reads' HO_294000.out).2.1); (case side3 => repeat (first | exact (Kd.R_reads' HO_295000.out).2.2 | (with_reducible refine Kd.C_alloc ?_ _) | (with_reducible refine Kd.C_drewN ?_ _) | (with_reducible refine Kd.C_drew ?_))); (case side4 => exact (Kd.R_reads' HO_295000.out).2.1); rintro e w55 ⟨v310, rfl, ho0, hb⟩; have n0_ := am_ (Kd.R_elder' (ro_ HO_13.out) (Kd.R_base ho0) hb); have n1_ := am_ (Kd.R_below (ro_ HO_294000.out) hb); have n2_ := am_ (Kd.R_below (ro_ HO_295000.out) hb); have n3_ := am_ (Kd.R_lower (Kd.R_new' ho0 (Kd.R_lt (ro_ HO_13.out))) (below_size (be_ HB.out))); have n4_ := am_ (bb_ BK293.out hb); have n5_ := am_ (bb_ BK294.out hb); have n6_ := am_ (below_step (be_ HB.out) hb); clear HO_13; clear HO_294000; clear HO_295000; clear BK293; clear BK294; clear HB; have HO_13 := n0_; have HO_294000 := n1_; have HO_295000 := n2_; have HO311 := n3_; have BK293 := n4_; have BK294 := n5_; have HB := n6_; clear n0_ n1_ n2_ n3_ n4_ n5_ n6_; (try clear hb); (try clear hb2); (try clear hk); (try clear hi); (try clear ho0); have hcz56_0 : w55.cell? ⟨gb293, 0, none⟩ = some (.slice Ao10 t290.length co10) := (blk_cell BK293.out 0).trans rfl; have hfz56_0 := blk_frozen BK293.out 0) | (go_at_call 11; (with_reducible refine (oplist_Open.calls _ _ t290 (wrap64 ((wrap64 (1 + (Go.bits .and .i64 a1 7))) - 1)) t312 _ ?side1 ?side2 A50.out).mono ?_); (case side1 => repeat (first | exact (Kd.R_reads' HO_294000.out).2.2 | (with_reducible refine Kd.C_alloc ?_ _) | (with_reducible refine Kd.C_drewN ?_ _) | (with_reducible refine Kd.C_drew ?_))); (case side2 => exact (Kd.R_reads' HO_294000.out).2.1); rintro e w57 ⟨v313, rfl, ho0, hb⟩; have n0_ := am_ (Kd.R_below (ro_ HO_13.out) hb); have n1_ := am_ (Kd.R_elder' (ro_ HO_294000.out) (Kd.R_base ho0) hb); have n2_ := am_ (Kd.R_below (ro_ HO_295000.out) hb); have n3_ := am_ (Kd.R_below (ro_ HO311.out) hb); have n4_ := am_ (Kd.R_lower (Kd.R_new' ho0 (Kd.R_lt (ro_ HO_294000.out))) (below_size (be_ HB.out))); have n5_ := am_ (bb_ BK293.out hb); have n6_ := am_ (bb_ BK294.out hb); have n7_ := am_ (below_step (be_ HB.out) hb); clear HO_13; clear HO_294000; clear HO_295000; clear HO311; clear BK293; clear BK294; clear HB; have HO_13 := n0_; have HO_294000 := n1_; have HO_295000 := n2_; have HO311 := n3_; have HO314 := n4_; have BK293 := n5_; have BK294 := n6_; have HB := n7_; clear n0_ n1_ n2_ n3_ n4_ n5_ n6_ n7_; (try clear hb); (try clear hb2); (try clear hk); (try clear hi); (try clear ho0))); go_upto_region 24 with (first | (go_at_call 19; (with_reducible refine (oplist_Ops.calls _ _ t290 _ _ x295000_1 x295001_1 (wrap64 ((wrap64 (1 + (Go.bits .and .i64 a1 7))) - 1)) t309 _ ?side1 ?side2 ?side3 ?side4 A49.out).mono ?_); (case side1 => repeat (first | exact (Kd.R_reads' HO_294000.out).2.2 | (with_reducible refine Kd.C_alloc ?_ _) | (with_reducible refine Kd.C_drewN ?_ _) | (with_reducible refine Kd.C_drew ?_))); (case side2 => exact (Kd.R_reads' HO_294000.out).2.1); (case side3 => repeat (first | exact (Kd.R_reads' HO_295000.out).2.2 | (with_reducible refine Kd.C_alloc ?_ _) | (with_reducible refine Kd.C_drewN ?_ _) | (with_reducible refine Kd.C_drew ?_))); (case side4 => exact (Kd.R_reads' HO_295000.out).2.1); rintro e w55 ⟨v310, rfl, ho0, hb⟩; have n0_ := am_ (Kd.R_elder' (ro_ HO_13.out) (Kd.R_base ho0) hb); have n1_ := am_ (Kd.R_below (ro_ HO_294000.out) hb); have n2_ := am_ (Kd.R_below (ro_ HO_295000.out) hb); have n3_ := am_ (Kd.R_lower (Kd.R_new' ho0 (Kd.R_lt (ro_ HO_13.out))) (below_size (be_ HB.out))); have n4_ := am_ (bb_ BK293.out hb); have n5_ := am_ (bb_ BK294.out hb); have n6_ := am_ (below_step (be_ HB.out) hb); clear HO_13; clear HO_294000; clear HO_295000; clear BK293; clear BK294; clear HB; have HO_13 := n0_; have HO_294000 := n1_; have HO_295000 := n2_; have HO311 := n3_; have BK293 := n4_; have BK294 := n5_; have HB := n6_; clear n0_ n1_ n2_ n3_ n4_ n5_ n6_; (try clear hb); (try clear hb2); (try clear hk); (try clear hi); (try clear ho0); have hcz56_0 : w55.cell? ⟨gb293, 0, none⟩ = some (.slice Ao10 t290.length co10) := (blk_cell BK293.out 0).trans rfl; have hfz56_0 := blk_frozen BK293.out 0) | (go_at_call 11; (with_reducible refine (oplist_Open.calls _ _ t290 (wrap64 ((wrap64 (1 + (Go.bits .and .i64 a1 7))) - 1)) t312 _ ?side1 ?side2 A50.out).mono ?_); (case side1 => repeat (first | exact (Kd.R_reads' HO_294000.out).2.2 | (with_reducible refine Kd.C_alloc ?_ _) | (with_reducible refine Kd.C_drewN ?_ _) | (with_reducible refine Kd.C_drew ?_))); (case side2 => exact (Kd.R_reads' HO_294000.out).2.1); rintro e w57 ⟨v313, rfl, ho0, hb⟩; have n0_ := am_ (Kd.R_below (ro_ HO_13.out) hb); have n1_ := am_ (Kd.R_elder' (ro_ HO_294000.out) (Kd.R_base ho0) hb); have n2_ := am_ (Kd.R_below (ro_ HO_295000.out) hb); have n3_ := am_ (Kd.R_below (ro_ HO311.out) hb); have n4_ := am_ (Kd.R_lower (Kd.R_new' ho0 (Kd.R_lt (ro_ HO_294000.out))) (below_size (be_ HB.out))); have n5_ := am_ (bb_ BK293.out hb); have n6_ := am_ (bb_ BK294.out hb); have n7_ := am_ (below_step (be_ HB.out) hb); clear HO_13; clear HO_294000; clear HO_295000; clear HO311; clear BK293; clear BK294; clear HB; have HO_13 := n0_; have HO_294000 := n1_; have HO_295000 := n2_; have HO311 := n3_; have HO314 := n4_; have BK293 := n5_; have BK294 := n6_; have HB := n7_; clear n0_ n1_ n2_ n3_ n4_ n5_ n6_ n7_; (try clear hb); (try clear hb2); (try clear hk); (try clear hi); (try clear ho0))))
        (try simp only [Act.put, List.setIfInBounds_toArray, List.set_cons_zero, List.set_cons_succ])
        go_cut [89] (fun v89 wc => ∃ (kq : Nat) (x89_50 : Bool), v89 = .bool x89_50 ∧ Aside0 (heronrylaw15_OplistOps.j2 kq t289 (wrap64 (1 + (Go.bits .and .i64 a1 7))) t309 t312 x89_50 t290 x295000_1 x295001_1 = some r) ∧ Aside0 (kq ≤ k2) ∧ Aside0 (Kd.R k55 55 wc w.heap.size (fun _ => True) v310 t309) ∧ Aside0 (Kd.R k33 33 wc w.heap.size (fun k_ => some k_ ≠ ((.slice Ao10 t290.length co10) : Value).ownBlock) v313 t312) ∧ Aside0 (Kd.R k33 33 wc w.heap.size (fun k_ => some k_ ≠ (v313 : Value).ownBlock) (.slice Ao10 t290.length co10) t290) ∧ Aside0 (Kd.R k95 95 wc w.heap.size (fun _ => True) (.slice Ao32 x295000_1.length co32) x295000_1) ∧ Aside0 (wc.heap[gb293]? = some (.cells #[(.slice Ao10 t290.length co10)] 26 (0, 0))) ∧ Aside0 (wc.heap[gb294]? = some (.cells #[(.slice Ao32 x295000_1.length co32), .int .i64 x295001_1] 48 (0, 0))) ∧ Aside0 (Below w.heap.size w wc))
        case first =>
         have H := HC51.out
         clear HC51
         by_cases c58 : (wrap64 (1 + (Go.bits .and .i64 a1 7))) > 1
         ·rw [if_pos c58] at H
          have c58b0 : decide (1 < (wrap64 (1 + (Go.bits .and .i64 a1 7)))) = true := decide_eq_true c58
          clear c58
          (first | rw [c58b0] | (simp only [i64_w, i32_w]; rw [c58b0]) | skip)
          by_cases c59 : (t309.length : Int) = (t312.length : Int)
          ·rw [if_pos c59] at H
           have c59b0 : ((t309.length : Int) == (t312.length : Int)) = true := beq_iff_eq.mpr c59
           have c59b1 : ((t309.length : Int) != (t312.length : Int)) = false := bne_eq_false_iff_eq.mpr c59
           have c59b2 : (t309.length == t312.length) = true := by first | simpa using c59 | (simp at c59 ⊢; omega)
           clear c59
           have H' := am_ H
           clear H
           obtain ⟨Ao60, co60, eo60⟩ := Kd.R_slice HO311.out
           subst eo60
           obtain ⟨Ao61, co61, eo61⟩ := Kd.R_slice HO314.out
           subst eo61
           obtain ⟨Ao62, co62, eo62⟩ := Kd.R_slice HO_13.out
           subst eo62
           go_wp2
           repeat (go_quiet (fail); try go_wp2)
           go_meet
           case rel => exact ⟨_, (((t302.length : Int) != x14_2)), (by first | rfl | (simp; done) | (simp [*]; done)), H', ⟨by have := HK1.out; have := HK2.out; first | omega | exact Nat.le_refl _⟩, ⟨by (with_reducible repeat (first | apply Kd.R_alloc | apply Kd.R_drewN | apply Kd.R_drew)); exact Kd.R_mono HO311.out (fun _ hk => trivial)⟩, ⟨by (with_reducible repeat (first | apply Kd.R_alloc | apply Kd.R_drewN | apply Kd.R_drew)); exact Kd.R_mono HO314.out (fun _ hk => hk.2)⟩, ⟨by (with_reducible repeat (first | apply Kd.R_alloc | apply Kd.R_drewN | apply Kd.R_drew)); exact Kd.R_mono HO_294000.out (fun _ hk => hk.2)⟩, ⟨ro_ HO_295000.out⟩, ⟨bk_ BK293.out⟩, ⟨bk_ BK294.out⟩, ⟨be_ HB.out⟩⟩
          ·rw [if_neg c59] at H
           exact absurd H (by simp)
         ·rw [if_neg c58] at H
          have c58b0 : decide (1 < (wrap64 (1 + (Go.bits .and .i64 a1 7)))) = false := decide_eq_false c58
          clear c58
          (first | rw [c58b0] | (simp only [i64_w, i32_w]; rw [c58b0]) | skip)
          have H' := am_ H
          clear H
          obtain ⟨Ao63, co63, eo63⟩ := Kd.R_slice HO_13.out
          subst eo63
          go_wp2
          repeat (go_quiet (fail); try go_wp2)
          go_meet
          case rel => exact ⟨_, (((t302.length : Int) != x14_2)), (by first | rfl | (simp; done) | (simp [*]; done)), H', ⟨by have := HK1.out; have := HK2.out; first | omega | exact Nat.le_refl _⟩, ⟨by (with_reducible repeat (first | apply Kd.R_alloc | apply Kd.R_drewN | apply Kd.R_drew)); exact Kd.R_mono HO311.out (fun _ hk => trivial)⟩, ⟨by (with_reducible repeat (first | apply Kd.R_alloc | apply Kd.R_drewN | apply Kd.R_drew)); exact Kd.R_mono HO314.out (fun _ hk => hk.2)⟩, ⟨by (with_reducible repeat (first | apply Kd.R_alloc | apply Kd.R_drewN | apply Kd.R_drew)); exact Kd.R_mono HO_294000.out (fun _ hk => hk.2)⟩, ⟨ro_ HO_295000.out⟩, ⟨bk_ BK293.out⟩, ⟨bk_ BK294.out⟩, ⟨be_ HB.out⟩⟩
        case rest =>
         clear HC51
         try clear c1
         try clear c2
         try clear p2
         try clear c3
         try clear c4
         try clear c4b0
         try clear c4b1
         try clear c5
         try clear c6
         try clear p6
         try clear c13
         try clear c15
         try clear c15b0
         try clear c17
         try clear c17b0
         try clear c17b1
         try clear c18
         try clear c24
         try clear c25
         try clear c29
         try clear c34
         try clear c34b0
         try clear c37
         try clear c38
         try clear c44
         try clear c52
         try clear c58
         try clear c58b0
         try clear c59
         try clear c59b0
         try clear c59b1
         try clear c59b2
         try clear hcz11_0
         try clear hcz14_0
         try clear hcz14_1
         try clear hcz19_0
         try clear hcz19_1
         try clear hcz26_0
         try clear hcz26_1
         try clear hcz27_0
         try clear hcz27_1
         try clear hcz30_0
         try clear hcz31_0
         try clear hcz31_1
         try clear hcz39_0
         try clear hcz41_0
         try clear hcz41_1
         try clear hcz45_0
         try clear hcz47_0
         try clear hcz47_1
         try clear hcz53_0
         try clear hcz54_0
         try clear hcz54_1
         try clear hcz56_0
         try clear hfz11_0
         try clear hfz14_0
         try clear hfz14_1
         try clear hfz19_0
         try clear hfz19_1
         try clear hfz26_0
         try clear hfz26_1
         try clear hfz27_0
         try clear hfz27_1
         try clear hfz30_0
         try clear hfz31_0
         try clear hfz31_1
         try clear hfz39_0
         try clear hfz41_0
         try clear hfz41_1
         try clear hfz45_0
         try clear hfz47_0
         try clear hfz47_1
         try clear hfz53_0
         try clear hfz54_0
         try clear hfz54_1
         try clear hfz56_0
         try clear p2
         try clear p6
         obtain ⟨kq, x89_50, rfl, HA, HJ50, HO_17, HO_18, HO_294000, HO_295000, BK293, BK294, HB⟩ := hcut
         cases kq with
         | zero => exact absurd HA.out (by simp [heronrylaw15_OplistOps.j2])
         | succ kj50 =>
          have H := HA.out
          clear HA
          simp only [heronrylaw15_OplistOps.j2] at H
          by_cases c64 : x89_50 = true
          ·subst c64
           have H1 : (none) = some r := by rw [if_pos rfl] at H; exact H
           clear H
           have H := H1
           clear H1
           exact absurd H (by simp)
          ·replace c64 := Bool.eq_false_iff.mpr c64
           subst c64
           have H1 : (heronrylaw15_OplistOps.l2 kj50 t289 (wrap64 (1 + (Go.bits .and .i64 a1 7))) t309 t312 0 t290 x295000_1 x295001_1) = some r := by rw [if_neg (show ¬ (false = true) by decide)] at H; exact H
           clear H
           have H := H1
           clear H1
           have H' := am_ H
           clear H
           go_wp2
           repeat (go_quiet (fail); try go_wp2)
           go_loopg [19] kj50 (fun kq v19 w' => ∃ (x19_4 : Int), v19 = .int .i64 x19_4 ∧ Aside0 (heronrylaw15_OplistOps.l2 kq t289 (wrap64 (1 + (Go.bits .and .i64 a1 7))) t309 t312 x19_4 t290 x295000_1 x295001_1 = some r) ∧ Aside0 (kq ≤ kj50) ∧ Aside0 (Kd.R k55 55 w' w.heap.size (fun _ => True) v310 t309) ∧ Aside0 (Kd.R k33 33 w' w.heap.size (fun k_ => some k_ ≠ ((.slice Ao10 t290.length co10) : Value).ownBlock) v313 t312) ∧ Aside0 (Kd.R k33 33 w' w.heap.size (fun k_ => some k_ ≠ (v313 : Value).ownBlock) (.slice Ao10 t290.length co10) t290) ∧ Aside0 (Kd.R k95 95 w' w.heap.size (fun _ => True) (.slice Ao32 x295000_1.length co32) x295000_1) ∧ Aside0 (w'.heap[gb293]? = some (.cells #[(.slice Ao10 t290.length co10)] 26 (0, 0))) ∧ Aside0 (w'.heap[gb294]? = some (.cells #[(.slice Ao32 x295000_1.length co32), .int .i64 x295001_1] 48 (0, 0))) ∧ Aside0 (Below w.heap.size w w'))
           case atStart => exact ⟨(0), (by first | rfl | (simp; done) | (simp [*]; done)), H', ⟨Nat.le_refl _⟩, ⟨ro_ HO_17.out⟩, ⟨ro_ HO_18.out⟩, ⟨ro_ HO_294000.out⟩, ⟨ro_ HO_295000.out⟩, ⟨bk_ BK293.out⟩, ⟨bk_ BK294.out⟩, ⟨be_ HB.out⟩⟩
           case round =>
            clear H'
            try clear c1
            try clear c2
            try clear p2
            try clear c3
            try clear c4
            try clear c4b0
            try clear c4b1
            try clear c5
            try clear c6
            try clear p6
            try clear c13
            try clear c15
            try clear c15b0
            try clear c17
            try clear c17b0
            try clear c17b1
            try clear c18
            try clear c24
            try clear c25
            try clear c29
            try clear c34
            try clear c34b0
            try clear c37
            try clear c38
            try clear c44
            try clear c52
            try clear c58
            try clear c58b0
            try clear c59
            try clear c59b0
            try clear c59b1
            try clear c59b2
            try clear c64
            try clear p64
            try clear hcz11_0
            try clear hcz14_0
            try clear hcz14_1
            try clear hcz19_0
            try clear hcz19_1
            try clear hcz26_0
            try clear hcz26_1
            try clear hcz27_0
            try clear hcz27_1
            try clear hcz30_0
            try clear hcz31_0
            try clear hcz31_1
            try clear hcz39_0
            try clear hcz41_0
            try clear hcz41_1
            try clear hcz45_0
            try clear hcz47_0
            try clear hcz47_1
            try clear hcz53_0
            try clear hcz54_0
            try clear hcz54_1
            try clear hcz56_0
            try clear hfz11_0
            try clear hfz14_0
            try clear hfz14_1
            try clear hfz19_0
            try clear hfz19_1
            try clear hfz26_0
            try clear hfz26_1
            try clear hfz27_0
            try clear hfz27_1
            try clear hfz30_0
            try clear hfz31_0
            try clear hfz31_1
            try clear hfz39_0
            try clear hfz41_0
            try clear hfz41_1
            try clear hfz45_0
            try clear hfz47_0
            try clear hfz47_1
            try clear hfz53_0
            try clear hfz54_0
            try clear hfz54_1
            try clear hfz56_0
            try clear p2
            try clear p6
            obtain ⟨x19_4, rfl, HA, HK4, HO_17, HO_18, HO_294000, HO_295000, BK293, BK294, HB⟩ := hrel
            cases gk with
            | zero => exact absurd HA.out (by simp [heronrylaw15_OplistOps.l2])
            | succ k4 =>
             have H := HA.out
             clear HA
             simp only [heronrylaw15_OplistOps.l2] at H
             have HC65 := am_ H
             clear H
             go_upto_region 27 with (fail)
             repeat (go_quiet (fail); go_upto_region 27 with (fail))
             go_cut [97] (fun v97 wc => ∃ (kq : Nat) (x97_64 : Bool), v97 = .bool x97_64 ∧ Aside0 (heronrylaw15_OplistOps.j4 kq t289 (wrap64 (1 + (Go.bits .and .i64 a1 7))) t309 t312 x19_4 x97_64 t290 x295000_1 x295001_1 = some r) ∧ Aside0 (kq ≤ k4) ∧ Aside0 (Kd.R k55 55 wc w.heap.size (fun _ => True) v310 t309) ∧ Aside0 (Kd.R k33 33 wc w.heap.size (fun k_ => some k_ ≠ ((.slice Ao10 t290.length co10) : Value).ownBlock) v313 t312) ∧ Aside0 (Kd.R k33 33 wc w.heap.size (fun k_ => some k_ ≠ (v313 : Value).ownBlock) (.slice Ao10 t290.length co10) t290) ∧ Aside0 (Kd.R k95 95 wc w.heap.size (fun _ => True) (.slice Ao32 x295000_1.length co32) x295000_1) ∧ Aside0 (wc.heap[gb293]? = some (.cells #[(.slice Ao10 t290.length co10)] 26 (0, 0))) ∧ Aside0 (wc.heap[gb294]? = some (.cells #[(.slice Ao32 x295000_1.length co32), .int .i64 x295001_1] 48 (0, 0))) ∧ Aside0 (Below w.heap.size w wc))
             case first =>
              have H := HC65.out
              clear HC65
              by_cases c66 : (wrap64 (1 + (Go.bits .and .i64 a1 7))) > 1
              ·rw [if_pos c66] at H
               have c66b0 : decide (1 < (wrap64 (1 + (Go.bits .and .i64 a1 7)))) = true := decide_eq_true c66
               clear c66
               (first | rw [c66b0] | (simp only [i64_w, i32_w]; rw [c66b0]) | skip)
               have H' := am_ H
               clear H
               obtain ⟨Ao67, co67, eo67⟩ := Kd.R_slice HO_18.out
               subst eo67
               go_wp2
               repeat (go_quiet (fail); try go_wp2)
               go_meet
               case rel => exact ⟨_, (decide (x19_4 < (t312.length : Int))), (by first | rfl | (simp; done) | (simp [*]; done)), H', ⟨by have := HK1.out; have := HK2.out; have := HJ50.out; have := HK4.out; first | omega | exact Nat.le_refl _⟩, ⟨ro_ HO_17.out⟩, ⟨ro_ HO_18.out⟩, ⟨ro_ HO_294000.out⟩, ⟨ro_ HO_295000.out⟩, ⟨bk_ BK293.out⟩, ⟨bk_ BK294.out⟩, ⟨be_ HB.out⟩⟩
              ·rw [if_neg c66] at H
               have c66b0 : decide (1 < (wrap64 (1 + (Go.bits .and .i64 a1 7)))) = false := decide_eq_false c66
               clear c66
               (first | rw [c66b0] | (simp only [i64_w, i32_w]; rw [c66b0]) | skip)
               have H' := am_ H
               clear H
               go_wp2
               repeat (go_quiet (fail); try go_wp2)
               go_meet
               case rel => exact ⟨_, (false), (by first | rfl | (simp; done) | (simp [*]; done)), H', ⟨by have := HK1.out; have := HK2.out; have := HJ50.out; have := HK4.out; first | omega | exact Nat.le_refl _⟩, ⟨ro_ HO_17.out⟩, ⟨ro_ HO_18.out⟩, ⟨ro_ HO_294000.out⟩, ⟨ro_ HO_295000.out⟩, ⟨bk_ BK293.out⟩, ⟨bk_ BK294.out⟩, ⟨be_ HB.out⟩⟩
             case rest =>
              clear HC65
              try clear c1
              try clear c2
              try clear p2
              try clear c3
              try clear c4
              try clear c4b0
              try clear c4b1
              try clear c5
              try clear c6
              try clear p6
              try clear c13
              try clear c15
              try clear c15b0
              try clear c17
              try clear c17b0
              try clear c17b1
              try clear c18
              try clear c24
              try clear c25
              try clear c29
              try clear c34
              try clear c34b0
              try clear c37
              try clear c38
              try clear c44
              try clear c52
              try clear c58
              try clear c58b0
              try clear c59
              try clear c59b0
              try clear c59b1
              try clear c59b2
              try clear c64
              try clear p64
              try clear c66
              try clear c66b0
              try clear hcz11_0
              try clear hcz14_0
              try clear hcz14_1
              try clear hcz19_0
              try clear hcz19_1
              try clear hcz26_0
              try clear hcz26_1
              try clear hcz27_0
              try clear hcz27_1
              try clear hcz30_0
              try clear hcz31_0
              try clear hcz31_1
              try clear hcz39_0
              try clear hcz41_0
              try clear hcz41_1
              try clear hcz45_0
              try clear hcz47_0
              try clear hcz47_1
              try clear hcz53_0
              try clear hcz54_0
              try clear hcz54_1
              try clear hcz56_0
              try clear hfz11_0
              try clear hfz14_0
              try clear hfz14_1
              try clear hfz19_0
              try clear hfz19_1
              try clear hfz26_0
              try clear hfz26_1
              try clear hfz27_0
              try clear hfz27_1
              try clear hfz30_0
              try clear hfz31_0
              try clear hfz31_1
              try clear hfz39_0
              try clear hfz41_0
              try clear hfz41_1
              try clear hfz45_0
              try clear hfz47_0
              try clear hfz47_1
              try clear hfz53_0
              try clear hfz54_0
              try clear hfz54_1
              try clear hfz56_0
              try clear p2
              try clear p6
              try clear p64
              obtain ⟨kq, x97_64, rfl, HA, HJ64, HO_17, HO_18, HO_294000, HO_295000, BK293, BK294, HB⟩ := hcut
              cases kq with
              | zero => exact absurd HA.out (by simp [heronrylaw15_OplistOps.j4])
              | succ kj64 =>
               have H := HA.out
               clear HA
               simp only [heronrylaw15_OplistOps.j4] at H
               by_cases c68 : x97_64 = true
               ·subst c68
                have H1 : (if 0 ≤ x19_4 then (if x19_4 < (t309.length : Int) then (if x19_4 < (t312.length : Int) then (if ((rd_T55 t309 x19_4).f0) = ((rd_T33 t312 x19_4).f1) then (if ((rd_T55 t309 x19_4).f1) = ((rd_T33 t312 x19_4).f2) then (heronrylaw15_OplistOps.l2 kj64 t289 (wrap64 (1 + (Go.bits .and .i64 a1 7))) t309 t312 (wrap64 (x19_4 + 1)) t290 x295000_1 x295001_1) else (none)) else (none)) else (none)) else (none)) else (none)) = some r := by rw [if_pos rfl] at H; exact H
                clear H
                have H := H1
                clear H1
                by_cases c69 : 0 ≤ x19_4
                ·rw [if_pos c69] at H
                 have c69b0 : decide (0 ≤ x19_4) = true := decide_eq_true c69
                 clear c69
                 by_cases c70 : x19_4 < (t309.length : Int)
                 ·rw [if_pos c70] at H
                  have c70b0 : decide (x19_4 < (t309.length : Int)) = true := decide_eq_true c70
                  clear c70
                  by_cases c71 : x19_4 < (t312.length : Int)
                  ·rw [if_pos c71] at H
                   have c71b0 : decide (x19_4 < (t312.length : Int)) = true := decide_eq_true c71
                   clear c71
                   by_cases c72 : ((rd_T55 t309 x19_4).f0) = ((rd_T33 t312 x19_4).f1)
                   ·rw [if_pos c72] at H
                    have c72b0 : (((rd_T55 t309 x19_4).f0) == ((rd_T33 t312 x19_4).f1)) = true := beq_iff_eq.mpr c72
                    have c72b1 : (((rd_T55 t309 x19_4).f0) != ((rd_T33 t312 x19_4).f1)) = false := bne_eq_false_iff_eq.mpr c72
                    clear c72
                    by_cases c73 : ((rd_T55 t309 x19_4).f1) = ((rd_T33 t312 x19_4).f2)
                    ·rw [if_pos c73] at H
                     have c73b0 : (((rd_T55 t309 x19_4).f1) == ((rd_T33 t312 x19_4).f2)) = true := beq_iff_eq.mpr c73
                     have c73b1 : (((rd_T55 t309 x19_4).f1) != ((rd_T33 t312 x19_4).f2)) = false := bne_eq_false_iff_eq.mpr c73
                     clear c73
                     have H' := am_ H
                     clear H
                     obtain ⟨Ao74, co74, eo74⟩ := Kd.R_slice HO_17.out
                     subst eo74
                     have p315 : 0 ≤ (x19_4 : Int) := of_decide_eq_true (by first | (with_reducible assumption) | assumption)
                     have q315 : x19_4 < (t309.length : Int) := of_decide_eq_true (by first | (with_reducible assumption) | assumption)
                     obtain ⟨ad315, e315, hx315_0, hx315_1⟩ := at_T55 (Kd.R_reads' HO_17.out).2.2 x19_4 p315 q315
                     cases e315
                     replace p315 := eq_true p315
                     replace q315 := eq_true q315
                     obtain ⟨Ao75, co75, eo75⟩ := Kd.R_slice HO_18.out
                     subst eo75
                     have p316 : 0 ≤ (x19_4 : Int) := of_decide_eq_true (by first | (with_reducible assumption) | assumption)
                     have q316 : x19_4 < (t312.length : Int) := of_decide_eq_true (by first | (with_reducible assumption) | assumption)
                     obtain ⟨ad316, e316, hx316_0, hx316_1, hx316_2, hx316_3⟩ := at_T33 (Kd.R_reads' HO_18.out).2.2 x19_4 p316 q316
                     cases e316
                     replace p316 := eq_true p316
                     replace q316 := eq_true q316
                     have p317 : 0 ≤ (x19_4 : Int) := of_decide_eq_true (by first | (with_reducible assumption) | assumption)
                     have q317 : x19_4 < (t309.length : Int) := of_decide_eq_true (by first | (with_reducible assumption) | assumption)
                     obtain ⟨ad317, e317, hx317_0, hx317_1⟩ := at_T55 (Kd.R_reads' HO_17.out).2.2 x19_4 p317 q317
                     obtain rfl : ad315 = ad317 := (by injection e317)
                     replace p317 := eq_true p317
                     replace q317 := eq_true q317
                     have p318 : 0 ≤ (x19_4 : Int) := of_decide_eq_true (by first | (with_reducible assumption) | assumption)
                     have q318 : x19_4 < (t312.length : Int) := of_decide_eq_true (by first | (with_reducible assumption) | assumption)
                     obtain ⟨ad318, e318, hx318_0, hx318_1, hx318_2, hx318_3⟩ := at_T33 (Kd.R_reads' HO_18.out).2.2 x19_4 p318 q318
                     obtain rfl : ad316 = ad318 := (by injection e318)
                     replace p318 := eq_true p318
                     replace q318 := eq_true q318
                     go_wp2
                     repeat (go_quiet (fail); try go_wp2)
                     go_roundg kj64
                     case measure => have := HK1.out; have := HK2.out; have := HJ50.out; have := HK4.out; have := HJ64.out; omega
                     case rel => exact ⟨(wrap64 (x19_4 + 1)), (by first | rfl | (simp; done) | (simp [*]; done)), H', ⟨by have := HK1.out; have := HK2.out; have := HJ50.out; have := HK4.out; have := HJ64.out; omega⟩, ⟨ro_ HO_17.out⟩, ⟨ro_ HO_18.out⟩, ⟨ro_ HO_294000.out⟩, ⟨ro_ HO_295000.out⟩, ⟨bk_ BK293.out⟩, ⟨bk_ BK294.out⟩, ⟨be_ HB.out⟩⟩
                    ·rw [if_neg c73] at H
                     exact absurd H (by simp)
                   ·rw [if_neg c72] at H
                    exact absurd H (by simp)
                  ·rw [if_neg c71] at H
                   exact absurd H (by simp)
                 ·rw [if_neg c70] at H
                  exact absurd H (by simp)
                ·rw [if_neg c69] at H
                 exact absurd H (by simp)
               ·replace c68 := Bool.eq_false_iff.mpr c68
                subst c68
                have H1 : (if t289 = true then ((oplist_Ops.f t290 x295000_1 x295001_1 (-1)).bind fun t319 => (some ((t319.length : Int) == 0))) else (none)) = some r := by rw [if_neg (show ¬ (false = true) by decide)] at H; exact H
                clear H
                have H := H1
                clear H1
                by_cases c76 : t289 = true
                ·subst c76
                 have H1 : ((oplist_Ops.f t290 x295000_1 x295001_1 (-1)).bind fun t319 => (some ((t319.length : Int) == 0))) = some r := by rw [if_pos rfl] at H; exact H
                 clear H
                 have H := H1
                 clear H1
                 replace H := Option.bind_eq_some_iff.mp H
                 obtain ⟨t319, A770, H⟩ := H
                 replace H : (some ((t319.length : Int) == 0)) = some r := H
                 have A77 := am_ A770
                 clear A770
                 obtain rfl := Option.some.inj H
                 have hnb78 := NB293_294.out
                 have hnc78 := NB294_293.out
                 have hcz79_0 : wc.cell? ⟨gb293, 0, none⟩ = some (.slice Ao10 t290.length co10) := (blk_cell BK293.out 0).trans rfl
                 have hfz79_0 := blk_frozen BK293.out 0
                 have hcz80_0 : wc.cell? ⟨gb294, 0, none⟩ = some (.slice Ao32 x295000_1.length co32) := (blk_cell BK294.out 0).trans rfl
                 have hcz80_1 : wc.cell? ⟨gb294, 1, none⟩ = some (.int .i64 x295001_1) := (blk_cell BK294.out 1).trans rfl
                 have hfz80_0 := blk_frozen BK294.out 0
                 have hfz80_1 := blk_frozen BK294.out 1
                 go_wp2_with (first | (go_at_call 19; (with_reducible refine (oplist_Ops.calls _ _ t290 _ _ x295000_1 x295001_1 (-1) t319 _ ?side1 ?side2 ?side3 ?side4 A77.out).mono ?_); (case side1 => repeat (first | exact (Kd.R_reads' HO_294000.out).2.2 | (with_reducible refine Kd.C_alloc ?_ _) | (with_reducible refine Kd.C_drewN ?_ _) | (with_reducible refine Kd.C_drew ?_))); (case side2 => exact (Kd.R_reads' HO_294000.out).2.1); (case side3 => repeat (first | exact (Kd.R_reads' HO_295000.out).2.2 | (with_reducible refine Kd.C_alloc ?_ _) | (with_reducible refine Kd.C_drewN ?_ _) | (with_reducible refine Kd.C_drew ?_))); (case side4 => exact (Kd.R_reads' HO_295000.out).2.1); rintro e w81 ⟨v320, rfl, ho0, hb⟩; have n0_ := am_ (Kd.R_elder' (ro_ HO_17.out) (Kd.R_base ho0) hb); have n1_ := am_ (Kd.R_below (ro_ HO_18.out) hb); have n2_ := am_ (Kd.R_below (ro_ HO_294000.out) hb); have n3_ := am_ (Kd.R_below (ro_ HO_295000.out) hb); have n4_ := am_ (Kd.R_lower (Kd.R_new' ho0 (Kd.R_lt (ro_ HO_17.out))) (below_size (be_ HB.out))); have n5_ := am_ (bb_ BK293.out hb); have n6_ := am_ (bb_ BK294.out hb); have n7_ := am_ (below_step (be_ HB.out) hb); clear HO_17; clear HO_18; clear HO_294000; clear HO_295000; clear BK293; clear BK294; clear HB; have HO_17 := n0_; have HO_18 := n1_; have HO_294000 := n2_; have HO_295000 := n3_; have HO321 := n4_; have BK293 := n5_; have BK294 := n6_; have HB := n7_; clear n0_ n1_ n2_ n3_ n4_ n5_ n6_ n7_; (try clear hb); (try clear hb2); (try clear hk); (try clear hi); (try clear ho0); obtain ⟨Ao82, co82, eo82⟩ := Kd.R_slice HO321.out; subst eo82))
                 repeat (go_quiet (first | (go_at_call 19; (with_reducible refine (oplist_Ops.calls _ _ t290 _ _ x295000_1 x295001_1 (-1) t319 _ ?side1 ?side2 ?side3 ?side4 A77.out).mono ?_); (case side1 => repeat (first | exact (Kd.R_reads' HO_294000.out).2.2 | (with_reducible refine Kd.C_alloc ?_ _) | (with_reducible refine Kd.C_drewN ?_ _) | (with_reducible refine Kd.C_drew ?_))); (case side2 => exact (Kd.R_reads' HO_294000.out).2.1); (case side3 => repeat (first | exact (Kd.R_reads' HO_295000.out).2.2 | (with_reducible refine Kd.C_alloc ?_ _) | (with_reducible refine Kd.C_drewN ?_ _) | (with_reducible refine Kd.C_drew ?_))); (case side4 => exact (Kd.R_reads' HO_295000.out).2.1); rintro e w81 ⟨v320, rfl, ho0, hb⟩; have n0_ := am_ (Kd.R_elder' (ro_ HO_17.out) (Kd.R_base ho0) hb); have n1_ := am_ (Kd.R_below (ro_ HO_18.out) hb); have n2_ := am_ (Kd.R_below (ro_ HO_294000.out) hb); have n3_ := am_ (Kd.R_below (ro_ HO_295000.out) hb); have n4_ := am_ (Kd.R_lower (Kd.R_new' ho0 (Kd.R_lt (ro_ HO_17.out))) (below_size (be_ HB.out))); have n5_ := am_ (bb_ BK293.out hb); have n6_ := am_ (bb_ BK294.out hb); have n7_ := am_ (below_step (be_ HB.out) hb); clear HO_17; clear HO_18; clear HO_294000; clear HO_295000; clear BK293; clear BK294; clear HB; have HO_17 := n0_; have HO_18 := n1_; have HO_294000 := n2_; have HO_295000 := n3_; have HO321 := n4_; have BK293 := n5_; have BK294 := n6_; have HB := n7_; clear n0_ n1_ n2_ n3_ n4_ n5_ n6_ n7_; (try clear hb); (try clear hb2); (try clear hk); (try clear hi); (try clear ho0); obtain ⟨Ao82, co82, eo82⟩ := Kd.R_slice HO321.out; subst eo82)); try go_wp2_with (first | (go_at_call 19; (with_reducible refine (oplist_Ops.calls _ _ t290 _ _ x295000_1 x295001_1 (-1) t319 _ ?side1 ?side2 ?side3 ?side4 A77.out).mono ?_); (case side1 => repeat (first | exact (Kd.R_reads' HO_294000.out).2.2 | (with_reducible refine Kd.C_alloc ?_ _) | (with_reducible refine Kd.C_drewN ?_ _) | (with_reducible refine Kd.C_drew ?_))); (case side2 => exact (Kd.R_reads' HO_294000.out).2.1); (case side3 => repeat (first | exact (Kd.R_reads' HO_295000.out).2.2 | (with_reducible refine Kd.C_alloc ?_ _) | (with_reducible refine Kd.C_drewN ?_ _) | (with_reducible refine Kd.C_drew ?_))); (case side4 => exact (Kd.R_reads' HO_295000.out).2.1); rintro e w81 ⟨v320, rfl, ho0, hb⟩; have n0_ := am_ (Kd.R_elder' (ro_ HO_17.out) (Kd.R_base ho0) hb); have n1_ := am_ (Kd.R_below (ro_ HO_18.out) hb); have n2_ := am_ (Kd.R_below (ro_ HO_294000.out) hb); have n3_ := am_ (Kd.R_below (ro_ HO_295000.out) hb); have n4_ := am_ (Kd.R_lower (Kd.R_new' ho0 (Kd.R_lt (ro_ HO_17.out))) (below_size (be_ HB.out))); have n5_ := am_ (bb_ BK293.out hb); have n6_ := am_ (bb_ BK294.out hb); have n7_ := am_ (below_step (be_ HB.out) hb); clear HO_17; clear HO_18; clear HO_294000; clear HO_295000; clear BK293; clear BK294; clear HB; have HO_17 := n0_; have HO_18 := n1_; have HO_294000 := n2_; have HO_295000 := n3_; have HO321 := n4_; have BK293 := n5_; have BK294 := n6_; have HB := n7_; clear n0_ n1_ n2_ n3_ n4_ n5_ n6_ n7_; (try clear hb); (try clear hb2); (try clear hk); (try clear hi); (try clear ho0); obtain ⟨Ao82, co82, eo82⟩ := Kd.R_slice HO321.out; subst eo82)))
                 go_ret
                 exact ⟨by first | rfl | (simp [errW_none, errW_some] <;> rfl) | (simp [*, errW_none, errW_some] <;> rfl), be_ HB.out⟩
                ·replace c76 := Bool.eq_false_iff.mpr c76
                 subst c76
                 have H1 : (none) = some r := by rw [if_neg (show ¬ (false = true) by decide)] at H; exact H
                 clear H
                 have H := H1
                 clear H1
                 exact absurd H (by simp)

end Go.Proofs.Ytjpoepiidmoegaa.Q
