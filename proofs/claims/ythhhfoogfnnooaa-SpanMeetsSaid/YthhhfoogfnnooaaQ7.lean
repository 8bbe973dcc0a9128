-- Written by hprint.py (the kit's printer, with functions that are given). Lean checks it.
import Derived.Test.YthhhfoogfnnooaaQ0
import Derived.Test.YthhhfoogfnnooaaQ1
import Derived.Test.YthhhfoogfnnooaaQ2
import Derived.Test.YthhhfoogfnnooaaQ6
namespace Go.Proofs.Ythhhfoogfnnooaa.Q
open Go.RowKit Go.Proofs.YthhhfoogfnnooaaW.PrintWords Go.Proofs.YthhhfoogfnnooaaW.PrintLast Go.Proofs.YthhhfoogfnnooaaW.PrintMore
attribute [local go_sem] max2_int min2_int max_two min_two max_three min_three max_four min_four   -- for this text's walks alone
set_option linter.unusedVariables false
set_option linter.unusedSimpArgs false

attribute [local go_sem high] eqA28
/-! ### heronrylaw12_SpanMeets: function 6 -/
def heronrylaw12_SpanMeets.j0 : Nat → Int → Bool → Bool → Bool → Int → Int → Int → Int → Int → Int → Option (Bool)
  | 0, _, _, _, _, _, _, _, _, _, _ => none
  | k + 1, x4, x11, x15, x45, x188000, x188001, x189000, x189001, x193000, x193001 => if x45 = true then (some false) else ((span_Holds.f x188000 x188001 x4).bind fun t197 => (if t197 = true then ((span_Holds.f x189000 x189001 x4).bind fun t198 => (if x11 = true then (if x15 = true then ((span_Holds.f x193000 x193001 x4).bind fun t199 => (if (t199 == t198) = true then (some true) else (some false))) else (if (false == t198) = true then (some (x193000 == 0 && (x193001 == 0))) else (some false))) else (some false))) else (if x11 = true then (if x15 = true then ((span_Holds.f x193000 x193001 x4).bind fun t200 => (if (t200 == false) = true then (some true) else (some false))) else (if (false == false) = true then (some (x193000 == 0 && (x193001 == 0))) else (some false))) else (some false))))
def heronrylaw12_SpanMeets.f (k : Nat) (a0 : Int) (a1 : Int) (a2 : Int) (a3 : Int) (a4 : Int) : Option (Bool) := (heronrylaw12_awake.f).bind fun t186 => ((span_Meet.f a0 a1 a2 a3).bind fun bt189 => ((span_Meet.f a2 a3 a0 a1).bind fun bt193 => (if (!(bt189.1 == bt193.1) || (!(bt189.2.1 == bt193.2.1))) = true then (heronrylaw12_SpanMeets.j0 k a4 t186 bt189.2.2 true a0 a1 a2 a3 bt189.1 bt189.2.1) else (heronrylaw12_SpanMeets.j0 k a4 t186 bt189.2.2 (bt189.2.2 != bt193.2.2) a0 a1 a2 a3 bt189.1 bt189.2.1))))
theorem heronrylaw12_SpanMeets.mono_l : ∀ k, (∀ y0 y1 y2 y3 y4 y5 y6 y7 y8 y9, LeO (heronrylaw12_SpanMeets.j0 k y0 y1 y2 y3 y4 y5 y6 y7 y8 y9) (heronrylaw12_SpanMeets.j0 (k + 1) y0 y1 y2 y3 y4 y5 y6 y7 y8 y9))
  | 0 => fun _ _ _ _ _ _ _ _ _ _ r h => by simp [heronrylaw12_SpanMeets.j0] at h
  | k + 1 => by
    have ih0 := heronrylaw12_SpanMeets.mono_l k
    · intro y0 y1 y2 y3 y4 y5 y6 y7 y8 y9
      unfold heronrylaw12_SpanMeets.j0
      repeat' first
      | (with_reducible exact ih0 _ _ _ _ _ _ _ _ _ _)
      | (with_reducible exact LeO.refl _)
      | (with_reducible exact LeO.none _)
      | (with_reducible refine LeO.ite ?_ ?_)
      | (with_reducible refine LeO.bind ?_ (fun _ => ?_))
      | exact ih0 _ _ _ _ _ _ _ _ _ _
      | exact LeO.none _
      | refine LeO.ite ?_ ?_
      | refine LeO.bind ?_ (fun _ => ?_)
theorem heronrylaw12_SpanMeets.mono : ∀ a0 a1 a2 a3 a4 k, LeO (heronrylaw12_SpanMeets.f k a0 a1 a2 a3 a4) (heronrylaw12_SpanMeets.f (k + 1) a0 a1 a2 a3 a4) := by
  intro a0 a1 a2 a3 a4 k
  have ih0 := heronrylaw12_SpanMeets.mono_l k
  unfold heronrylaw12_SpanMeets.f
  repeat' first
      | (with_reducible exact ih0 _ _ _ _ _ _ _ _ _ _)
      | (with_reducible exact LeO.refl _)
      | (with_reducible exact LeO.none _)
      | (with_reducible refine LeO.ite ?_ ?_)
      | (with_reducible refine LeO.bind ?_ (fun _ => ?_))
      | exact ih0 _ _ _ _ _ _ _ _ _ _
      | exact LeO.none _
      | refine LeO.ite ?_ ?_
      | refine LeO.bind ?_ (fun _ => ?_)
set_option maxHeartbeats 8000000 in
set_option maxRecDepth 100000 in
theorem heronrylaw12_SpanMeets.calls (k : Nat) (a0 : Int) (a1 : Int) (a2 : Int) (a3 : Int) (a4 : Int) (r : Bool) (w : World) (h : heronrylaw12_SpanMeets.f k a0 a1 a2 a3 a4 = some r) :
    Calls Try.prog 6 #[.int .i64 a0, .int .i64 a1, .int .i64 a2, .int .i64 a3, .int .i64 a4] w fun e w' => e = .returned (.bool r) ∧ Below w.heap.size w w' := by
  have hu28 := Try.underlying28
  have HB := Aside0.mk (Below.refl w.heap.size w)
  have H : ((heronrylaw12_awake.f).bind fun t186 => ((span_Meet.f a0 a1 a2 a3).bind fun bt189 => ((span_Meet.f a2 a3 a0 a1).bind fun bt193 => (if (!(bt189.1 == bt193.1) || (!(bt189.2.1 == bt193.2.1))) = true then (heronrylaw12_SpanMeets.j0 k a4 t186 bt189.2.2 true a0 a1 a2 a3 bt189.1 bt189.2.1) else (heronrylaw12_SpanMeets.j0 k a4 t186 bt189.2.2 (bt189.2.2 != bt193.2.2) a0 a1 a2 a3 bt189.1 bt189.2.1))))) = some r := h
  clear h
  replace H := Option.bind_eq_some_iff.mp H
  obtain ⟨t186, A60, H⟩ := H
  replace H : ((span_Meet.f a0 a1 a2 a3).bind fun bt189 => ((span_Meet.f a2 a3 a0 a1).bind fun bt193 => (if (!(bt189.1 == bt193.1) || (!(bt189.2.1 == bt193.2.1))) = true then (heronrylaw12_SpanMeets.j0 k a4 t186 bt189.2.2 true a0 a1 a2 a3 bt189.1 bt189.2.1) else (heronrylaw12_SpanMeets.j0 k a4 t186 bt189.2.2 (bt189.2.2 != bt193.2.2) a0 a1 a2 a3 bt189.1 bt189.2.1)))) = some r := H
  have A6 := Aside0.mk A60
  clear A60
  replace H := Option.bind_eq_some_iff.mp H
  obtain ⟨⟨t189, t190, t191⟩, A70, H⟩ := H
  replace H : ((span_Meet.f a2 a3 a0 a1).bind fun bt193 => (if (!(t189 == bt193.1) || (!(t190 == bt193.2.1))) = true then (heronrylaw12_SpanMeets.j0 k a4 t186 t191 true a0 a1 a2 a3 t189 t190) else (heronrylaw12_SpanMeets.j0 k a4 t186 t191 (t191 != bt193.2.2) a0 a1 a2 a3 t189 t190))) = some r := H
  have A7 := Aside0.mk A70
  clear A70
  replace H := Option.bind_eq_some_iff.mp H
  obtain ⟨⟨t193, t194, t195⟩, A80, H⟩ := H
  replace H : (if (!(t189 == t193) || (!(t190 == t194))) = true then (heronrylaw12_SpanMeets.j0 k a4 t186 t191 true a0 a1 a2 a3 t189 t190) else (heronrylaw12_SpanMeets.j0 k a4 t186 t191 (t191 != t195) a0 a1 a2 a3 t189 t190)) = some r := H
  have A8 := Aside0.mk A80
  clear A80
  have HC9 := Aside0.mk H
  clear H
  go_enter Try.func6, Try.ntmps6
  go_upto_region 6 with (first | ((with_reducible refine gate_callee (f := 10) rfl ?_); refine goesL_ (some 19) rfl rfl Try.func10 (by kernel_rfl) rfl #[] rfl (by (try simp only [List.map_toArray, List.map_cons, List.map_nil]); first | done | rfl | (simp only [List.length_drop, List.length_take]; rfl)) ?_; (with_reducible refine (heronrylaw12_awake.calls  t186 _ A6.out).mono ?_); rintro e w10 ⟨rfl, hb⟩; refine ⟨_, rfl, ?_⟩; have n0_ := Aside0.mk (below_step (by repeat (first | (with_reducible first | exact HB.out | apply below_alloc | apply pw_below_drewN | apply below_drew1) | exact HB.out)) hb); clear HB; have HB := n0_; clear n0_; (try clear hb); (try clear hb2); (try clear hk); (try clear hi)) | ((with_reducible refine gate_dst (N := 12) rfl ?_); refine box_event ?hg (N := 12) ?hd (cs := #[.int .i64 0, .int .i64 0]) (t := 28) ?hr ?_; (case hd => rfl); (case hg => rfl); (case hr => first | (go_simp; done) | (go_simp; rfl)); intro gb187 hg w11 hbox hb; have n0_ := Aside0.mk (below_step (by repeat (first | (with_reducible first | exact HB.out | apply below_alloc | apply pw_below_drewN | apply below_drew1) | exact HB.out)) hb); have n1_ := Aside0.mk (hbox); have n2_ := Aside0.mk ((by rw [hg]; exact (below_size (by repeat (first | (with_reducible first | exact HB.out | apply below_alloc | apply pw_below_drewN | apply below_drew1) | exact HB.out))) : w.heap.size ≤ gb187)); have n3_ := Aside0.mk ((by rw [hg]; exact (below_size (by repeat (first | (with_reducible first | exact HB.out | apply below_alloc | apply pw_below_drewN | apply below_drew1) | exact HB.out))) : w.heap.size ≤ gb187)); clear HB; have HB := n0_; have BK187 := n1_; have GW187 := n2_; have GE187 := n3_; clear n0_ n1_ n2_ n3_; clear hb hbox hg; have hcz12_0 : w11.cell? ⟨gb187, 0, none⟩ = some (.int .i64 0) := (blk_cell BK187.out 0).trans rfl; have hcz12_1 : w11.cell? ⟨gb187, 1, none⟩ = some (.int .i64 0) := (blk_cell BK187.out 1).trans rfl; have hfz12_0 := blk_frozen BK187.out 0; have hfz12_1 := blk_frozen BK187.out 1) | ((with_reducible refine gate_dst (N := 13) rfl ?_); refine box_event ?hg (N := 13) ?hd (cs := #[.int .i64 0, .int .i64 0]) (t := 28) ?hr ?_; (case hd => rfl); (case hg => rfl); (case hr => first | (go_simp; done) | (go_simp; rfl)); intro gb188 hg w13 hbox hb; have n0_ := Aside0.mk (blk_below (g := gb187) (o := .cells #[.int .i64 a0, .int .i64 a1] 28 (0, 0)) (by (with_reducible repeat (first | refine blk_drewN ?_ _ | refine blk_drew ?_ | refine blk_alloc ?_ _)); refine blk_put (cs := #[.int .i64 a0, .int .i64 0]) ?_ 1 _ rfl; (with_reducible repeat (first | refine blk_drewN ?_ _ | refine blk_drew ?_ | refine blk_alloc ?_ _)); refine blk_put (cs := #[.int .i64 0, .int .i64 0]) ?_ 0 _ rfl; (with_reducible repeat (first | refine blk_drewN ?_ _ | refine blk_drew ?_ | refine blk_alloc ?_ _)); exact BK187.out) hb); have n1_ := Aside0.mk (below_step (by repeat (first | (with_reducible first | exact HB.out | apply below_alloc | apply pw_below_drewN | apply below_drew1 | refine below_set ?_ GE187.out) | exact HB.out)) hb); have n2_ := Aside0.mk (hbox); have n3_ := Aside0.mk ((by rw [hg]; exact (below_size (by repeat (first | (with_reducible first | exact HB.out | apply below_alloc | apply pw_below_drewN | apply below_drew1 | refine below_set ?_ GE187.out) | exact HB.out))) : w.heap.size ≤ gb188)); have n4_ := Aside0.mk ((by rw [hg]; exact (below_size (by repeat (first | (with_reducible first | exact HB.out | apply below_alloc | apply pw_below_drewN | apply below_drew1 | refine below_set ?_ GE187.out) | exact HB.out))) : w.heap.size ≤ gb188)); have n5_ := Aside0.mk ((by rw [hg]; exact Nat.ne_of_lt (blk_lt (g := gb187) (o := .cells #[.int .i64 a0, .int .i64 a1] 28 (0, 0)) (by (with_reducible repeat (first | refine blk_drewN ?_ _ | refine blk_drew ?_ | refine blk_alloc ?_ _)); refine blk_put (cs := #[.int .i64 a0, .int .i64 0]) ?_ 1 _ rfl; (with_reducible repeat (first | refine blk_drewN ?_ _ | refine blk_drew ?_ | refine blk_alloc ?_ _)); refine blk_put (cs := #[.int .i64 0, .int .i64 0]) ?_ 0 _ rfl; (with_reducible repeat (first | refine blk_drewN ?_ _ | refine blk_drew ?_ | refine blk_alloc ?_ _)); exact BK187.out)) : gb187 ≠ gb188)); have n6_ := Aside0.mk ((by rw [hg]; exact Nat.ne_of_gt (blk_lt (g := gb187) (o := .cells #[.int .i64 a0, .int .i64 a1] 28 (0, 0)) (by (with_reducible repeat (first | refine blk_drewN ?_ _ | refine blk_drew ?_ | refine blk_alloc ?_ _)); refine blk_put (cs := #[.int .i64 a0, .int .i64 0]) ?_ 1 _ rfl; (with_reducible repeat (first | refine blk_drewN ?_ _ | refine blk_drew ?_ | refine blk_alloc ?_ _)); refine blk_put (cs := #[.int .i64 0, .int .i64 0]) ?_ 0 _ rfl; (with_reducible repeat (first | refine blk_drewN ?_ _ | refine blk_drew ?_ | refine blk_alloc ?_ _)); exact BK187.out)) : gb188 ≠ gb187)); clear BK187; clear HB; have BK187 := n0_; have HB := n1_; have BK188 := n2_; have GW188 := n3_; have GE188 := n4_; have NB187_188 := n5_; have NB188_187 := n6_; clear n0_ n1_ n2_ n3_ n4_ n5_ n6_; clear hb hbox hg; have hnb14 := NB188_187.out; have hnc14 := NB187_188.out; have hcz15_0 : w13.cell? ⟨gb188, 0, none⟩ = some (.int .i64 0) := (blk_cell BK188.out 0).trans rfl; have hcz15_1 : w13.cell? ⟨gb188, 1, none⟩ = some (.int .i64 0) := (blk_cell BK188.out 1).trans rfl; have hfz15_0 := blk_frozen BK188.out 0; have hfz15_1 := blk_frozen BK188.out 1; have hcz16_0 : w13.cell? ⟨gb187, 0, none⟩ = some (.int .i64 a0) := (blk_cell BK187.out 0).trans rfl; have hcz16_1 : w13.cell? ⟨gb187, 1, none⟩ = some (.int .i64 a1) := (blk_cell BK187.out 1).trans rfl; have hfz16_0 := blk_frozen BK187.out 0; have hfz16_1 := blk_frozen BK187.out 1) | ((with_reducible refine gate_callee (f := 16) rfl ?_); refine goesL_ (some 29) rfl rfl Try.func16 (by kernel_rfl) rfl #[.agg #[.int .i64 a0, .int .i64 a1], .agg #[.int .i64 a2, .int .i64 a3]] rfl (by (try simp only [List.map_toArray, List.map_cons, List.map_nil]); first | done | rfl | (simp only [List.length_drop, List.length_take]; rfl)) ?_; (with_reducible refine (span_Meet.calls a0 a1 a2 a3 t189 t190 t191 _ A7.out).mono ?_); rintro e w17 ⟨rfl, hb⟩; refine ⟨_, rfl, ?_⟩; have n0_ := Aside0.mk (blk_below (g := gb187) (o := .cells #[.int .i64 a0, .int .i64 a1] 28 (0, 0)) (by (with_reducible repeat (first | refine blk_drewN ?_ _ | refine blk_drew ?_ | refine blk_alloc ?_ _)); refine blk_far ?_ NB187_188.out _; (with_reducible repeat (first | refine blk_drewN ?_ _ | refine blk_drew ?_ | refine blk_alloc ?_ _)); refine blk_far ?_ NB187_188.out _; (with_reducible repeat (first | refine blk_drewN ?_ _ | refine blk_drew ?_ | refine blk_alloc ?_ _)); exact BK187.out) hb); have n1_ := Aside0.mk (blk_below (g := gb188) (o := .cells #[.int .i64 a2, .int .i64 a3] 28 (0, 0)) (by (with_reducible repeat (first | refine blk_drewN ?_ _ | refine blk_drew ?_ | refine blk_alloc ?_ _)); refine blk_put (cs := #[.int .i64 a2, .int .i64 0]) ?_ 1 _ rfl; (with_reducible repeat (first | refine blk_drewN ?_ _ | refine blk_drew ?_ | refine blk_alloc ?_ _)); refine blk_put (cs := #[.int .i64 0, .int .i64 0]) ?_ 0 _ rfl; (with_reducible repeat (first | refine blk_drewN ?_ _ | refine blk_drew ?_ | refine blk_alloc ?_ _)); exact BK188.out) hb); have n2_ := Aside0.mk (below_step (by repeat (first | (with_reducible first | exact HB.out | apply below_alloc | apply pw_below_drewN | apply below_drew1 | refine below_set ?_ GE187.out | refine below_set ?_ GE188.out) | exact HB.out)) hb); clear BK187; clear BK188; clear HB; have BK187 := n0_; have BK188 := n1_; have HB := n2_; clear n0_ n1_ n2_; (try clear hb); (try clear hb2); (try clear hk); (try clear hi)) | ((with_reducible refine gate_dst (N := 14) rfl ?_); refine box_event ?hg (N := 14) ?hd (cs := #[.int .i64 0, .int .i64 0]) (t := 28) ?hr ?_; (case hd => rfl); (case hg => rfl); (case hr => first | (go_simp; done) | (go_simp; rfl)); intro gb192 hg w18 hbox hb; have n0_ := Aside0.mk (blk_below (g := gb187) (o := .cells #[.int .i64 a0, .int .i64 a1] 28 (0, 0)) (by (with_reducible repeat (first | refine blk_drewN ?_ _ | refine blk_drew ?_ | refine blk_alloc ?_ _)); exact BK187.out) hb); have n1_ := Aside0.mk (blk_below (g := gb188) (o := .cells #[.int .i64 a2, .int .i64 a3] 28 (0, 0)) (by (with_reducible repeat (first | refine blk_drewN ?_ _ | refine blk_drew ?_ | refine blk_alloc ?_ _)); exact BK188.out) hb); have n2_ := Aside0.mk (below_step (by repeat (first | (with_reducible first | exact HB.out | apply below_alloc | apply pw_below_drewN | apply below_drew1 | refine below_set ?_ GE187.out | refine below_set ?_ GE188.out) | exact HB.out)) hb); have n3_ := Aside0.mk (hbox); have n4_ := Aside0.mk ((by rw [hg]; exact (below_size (by repeat (first | (with_reducible first | exact HB.out | apply below_alloc | apply pw_below_drewN | apply below_drew1 | refine below_set ?_ GE187.out | refine below_set ?_ GE188.out) | exact HB.out))) : w.heap.size ≤ gb192)); have n5_ := Aside0.mk ((by rw [hg]; exact (below_size (by repeat (first | (with_reducible first | exact HB.out | apply below_alloc | apply pw_below_drewN | apply below_drew1 | refine below_set ?_ GE187.out | refine below_set ?_ GE188.out) | exact HB.out))) : w.heap.size ≤ gb192)); have n6_ := Aside0.mk ((by rw [hg]; exact Nat.ne_of_lt (blk_lt (g := gb187) (o := .cells #[.int .i64 a0, .int .i64 a1] 28 (0, 0)) (by (with_reducible repeat (first | refine blk_drewN ?_ _ | refine blk_drew ?_ | refine blk_alloc ?_ _)); exact BK187.out)) : gb187 ≠ gb192)); have n7_ := Aside0.mk ((by rw [hg]; exact Nat.ne_of_gt (blk_lt (g := gb187) (o := .cells #[.int .i64 a0, .int .i64 a1] 28 (0, 0)) (by (with_reducible repeat (first | refine blk_drewN ?_ _ | refine blk_drew ?_ | refine blk_alloc ?_ _)); exact BK187.out)) : gb192 ≠ gb187)); have n8_ := Aside0.mk ((by rw [hg]; exact Nat.ne_of_lt (blk_lt (g := gb188) (o := .cells #[.int .i64 a2, .int .i64 a3] 28 (0, 0)) (by (with_reducible repeat (first | refine blk_drewN ?_ _ | refine blk_drew ?_ | refine blk_alloc ?_ _)); exact BK188.out)) : gb188 ≠ gb192)); have n9_ := Aside0.mk ((by rw [hg]; exact Nat.ne_of_gt (blk_lt (g := gb188) (o := .cells #[.int .i64 a2, .int .i64 a3] 28 (0, 0)) (by (with_reducible repeat (first | refine blk_drewN ?_ _ | refine blk_drew ?_ | refine blk_alloc ?_ _)); exact BK188.out)) : gb192 ≠ gb188)); clear BK187; clear BK188; clear HB; have BK187 := n0_; have BK188 := n1_; have HB := n2_; have BK192 := n3_; have GW192 := n4_; have GE192 := n5_; have NB187_192 := n6_; have NB192_187 := n7_; have NB188_192 := n8_; have NB192_188 := n9_; clear n0_ n1_ n2_ n3_ n4_ n5_ n6_ n7_ n8_ n9_; clear hb hbox hg; have hnb19 := NB192_187.out; have hnc19 := NB187_192.out; have hnb20 := NB192_188.out; have hnc20 := NB188_192.out; have hcz21_0 : w18.cell? ⟨gb192, 0, none⟩ = some (.int .i64 0) := (blk_cell BK192.out 0).trans rfl; have hcz21_1 : w18.cell? ⟨gb192, 1, none⟩ = some (.int .i64 0) := (blk_cell BK192.out 1).trans rfl; have hfz21_0 := blk_frozen BK192.out 0; have hfz21_1 := blk_frozen BK192.out 1; have hcz22_0 : w18.cell? ⟨gb188, 0, none⟩ = some (.int .i64 a2) := (blk_cell BK188.out 0).trans rfl; have hcz22_1 : w18.cell? ⟨gb188, 1, none⟩ = some (.int .i64 a3) := (blk_cell BK188.out 1).trans rfl; have hfz22_0 := blk_frozen BK188.out 0; have hfz22_1 := blk_frozen BK188.out 1; have hcz23_0 : w18.cell? ⟨gb187, 0, none⟩ = some (.int .i64 a0) := (blk_cell BK187.out 0).trans rfl; have hcz23_1 : w18.cell? ⟨gb187, 1, none⟩ = some (.int .i64 a1) := (blk_cell BK187.out 1).trans rfl; have hfz23_0 := blk_frozen BK187.out 0; have hfz23_1 := blk_frozen BK187.out 1) | ((with_reducible refine gate_callee (f := 16) rfl ?_); refine goesL_ (some 35) rfl rfl Try.func16 (by kernel_rfl) rfl #[.agg #[.int .i64 a2, .int .i64 a3], .agg #[.int .i64 a0, .int .i64 a1]] rfl (by (try simp only [List.map_toArray, List.map_cons, List.map_nil]); first | done | rfl | (simp only [List.length_drop, List.length_take]; rfl)) ?_; (with_reducible refine (span_Meet.calls a2 a3 a0 a1 t193 t194 t195 _ A8.out).mono ?_); rintro e w24 ⟨rfl, hb⟩; refine ⟨_, rfl, ?_⟩; have n0_ := Aside0.mk (blk_below (g := gb187) (o := .cells #[.int .i64 a0, .int .i64 a1] 28 (0, 0)) (by (with_reducible repeat (first | refine blk_drewN ?_ _ | refine blk_drew ?_ | refine blk_alloc ?_ _)); refine blk_far ?_ NB187_192.out _; (with_reducible repeat (first | refine blk_drewN ?_ _ | refine blk_drew ?_ | refine blk_alloc ?_ _)); refine blk_far ?_ NB187_192.out _; (with_reducible repeat (first | refine blk_drewN ?_ _ | refine blk_drew ?_ | refine blk_alloc ?_ _)); exact BK187.out) hb); have n1_ := Aside0.mk (blk_below (g := gb188) (o := .cells #[.int .i64 a2, .int .i64 a3] 28 (0, 0)) (by (with_reducible repeat (first | refine blk_drewN ?_ _ | refine blk_drew ?_ | refine blk_alloc ?_ _)); refine blk_far ?_ NB188_192.out _; (with_reducible repeat (first | refine blk_drewN ?_ _ | refine blk_drew ?_ | refine blk_alloc ?_ _)); refine blk_far ?_ NB188_192.out _; (with_reducible repeat (first | refine blk_drewN ?_ _ | refine blk_drew ?_ | refine blk_alloc ?_ _)); exact BK188.out) hb); have n2_ := Aside0.mk (blk_below (g := gb192) (o := .cells #[.int .i64 t189, .int .i64 t190] 28 (0, 0)) (by (with_reducible repeat (first | refine blk_drewN ?_ _ | refine blk_drew ?_ | refine blk_alloc ?_ _)); refine blk_put (cs := #[.int .i64 t189, .int .i64 0]) ?_ 1 _ rfl; (with_reducible repeat (first | refine blk_drewN ?_ _ | refine blk_drew ?_ | refine blk_alloc ?_ _)); refine blk_put (cs := #[.int .i64 0, .int .i64 0]) ?_ 0 _ rfl; (with_reducible repeat (first | refine blk_drewN ?_ _ | refine blk_drew ?_ | refine blk_alloc ?_ _)); exact BK192.out) hb); have n3_ := Aside0.mk (below_step (by repeat (first | (with_reducible first | exact HB.out | apply below_alloc | apply pw_below_drewN | apply below_drew1 | refine below_set ?_ GE187.out | refine below_set ?_ GE188.out | refine below_set ?_ GE192.out) | exact HB.out)) hb); clear BK187; clear BK188; clear BK192; clear HB; have BK187 := n0_; have BK188 := n1_; have BK192 := n2_; have HB := n3_; clear n0_ n1_ n2_ n3_; (try clear hb); (try clear hb2); (try clear hk); (try clear hi)) | ((with_reducible refine gate_dst (N := 16) rfl ?_); refine box_event ?hg (N := 16) ?hd (cs := #[.int .i64 0, .int .i64 0]) (t := 28) ?hr ?_; (case hd => rfl); (case hg => rfl); (case hr => first | (go_simp; done) | (go_simp; rfl)); intro gb196 hg w25 hbox hb; have n0_ := Aside0.mk (blk_below (g := gb187) (o := .cells #[.int .i64 a0, .int .i64 a1] 28 (0, 0)) (by (with_reducible repeat (first | refine blk_drewN ?_ _ | refine blk_drew ?_ | refine blk_alloc ?_ _)); exact BK187.out) hb); have n1_ := Aside0.mk (blk_below (g := gb188) (o := .cells #[.int .i64 a2, .int .i64 a3] 28 (0, 0)) (by (with_reducible repeat (first | refine blk_drewN ?_ _ | refine blk_drew ?_ | refine blk_alloc ?_ _)); exact BK188.out) hb); have n2_ := Aside0.mk (blk_below (g := gb192) (o := .cells #[.int .i64 t189, .int .i64 t190] 28 (0, 0)) (by (with_reducible repeat (first | refine blk_drewN ?_ _ | refine blk_drew ?_ | refine blk_alloc ?_ _)); exact BK192.out) hb); have n3_ := Aside0.mk (below_step (by repeat (first | (with_reducible first | exact HB.out | apply below_alloc | apply pw_below_drewN | apply below_drew1 | refine below_set ?_ GE187.out | refine below_set ?_ GE188.out | refine below_set ?_ GE192.out) | exact HB.out)) hb); have n4_ := Aside0.mk (hbox); have n5_ := Aside0.mk ((by rw [hg]; exact (below_size (by repeat (first | (with_reducible first | exact HB.out | apply below_alloc | apply pw_below_drewN | apply below_drew1 | refine below_set ?_ GE187.out | refine below_set ?_ GE188.out | refine below_set ?_ GE192.out) | exact HB.out))) : w.heap.size ≤ gb196)); have n6_ := Aside0.mk ((by rw [hg]; exact (below_size (by repeat (first | (with_reducible first | exact HB.out | apply below_alloc | apply pw_below_drewN | apply below_drew1 | refine below_set ?_ GE187.out | refine below_set ?_ GE188.out | refine below_set ?_ GE192.out) | exact HB.out))) : w.heap.size ≤ gb196)); have n7_ := Aside0.mk ((by rw [hg]; exact Nat.ne_of_lt (blk_lt (g := gb187) (o := .cells #[.int .i64 a0, .int .i64 a1] 28 (0, 0)) (by (with_reducible repeat (first | refine blk_drewN ?_ _ | refine blk_drew ?_ | refine blk_alloc ?_ _)); exact BK187.out)) : gb187 ≠ gb196)); have n8_ := Aside0.mk ((by rw [hg]; exact Nat.ne_of_gt (blk_lt (g := gb187) (o := .cells #[.int .i64 a0, .int .i64 a1] 28 (0, 0)) (by (with_reducible repeat (first | refine blk_drewN ?_ _ | refine blk_drew ?_ | refine blk_alloc ?_ _)); exact BK187.out)) : gb196 ≠ gb187)); have n9_ := Aside0.mk ((by rw [hg]; exact Nat.ne_of_lt (blk_lt (g := gb188) (o := .cells #[.int .i64 a2, .int .i64 a3] 28 (0, 0)) (by (with_reducible repeat (first | refine blk_drewN ?_ _ | refine blk_drew ?_ | refine blk_alloc ?_ _)); exact BK188.out)) : gb188 ≠ gb196)); have n10_ := Aside0.mk ((by rw [hg]; exact Nat.ne_of_gt (blk_lt (g := gb188) (o := .cells #[.int .i64 a2, .int .i64 a3] 28 (0, 0)) (by (with_reducible repeat (first | refine blk_drewN ?_ _ | refine blk_drew ?_ | refine blk_alloc ?_ _)); exact BK188.out)) : gb196 ≠ gb188)); have n11_ := Aside0.mk ((by rw [hg]; exact Nat.ne_of_lt (blk_lt (g := gb192) (o := .cells #[.int .i64 t189, .int .i64 t190] 28 (0, 0)) (by (with_reducible repeat (first | refine blk_drewN ?_ _ | refine blk_drew ?_ | refine blk_alloc ?_ _)); exact BK192.out)) : gb192 ≠ gb196)); have n12_ := Aside0.mk ((by rw [hg]; exact Nat.ne_of_gt (blk_lt (g := gb192) (o := .cells #[.int .i64 t189, .int .i64 t190] 28 (0, 0)) (by (with_reducible repeat (first | refine blk_drewN ?_ _ | refine blk_drew ?_ | refine blk_alloc ?_ _)); exact BK192.out)) : gb196 ≠ gb192)); clear BK187; clear BK188; clear BK192; clear HB; have BK187 := n0_; have BK188 := n1_; have BK192 := n2_; have HB := n3_; have BK196 := n4_; have GW196 := n5_; have GE196 := n6_; have NB187_196 := n7_; have NB196_187 := n8_; have NB188_196 := n9_; have NB196_188 := n10_; have NB192_196 := n11_; have NB196_192 := n12_; clear n0_ n1_ n2_ n3_ n4_ n5_ n6_ n7_ n8_ n9_ n10_ n11_ n12_; clear hb hbox hg; have hnb26 := NB196_187.out; have hnc26 := NB187_196.out; have hnb27 := NB196_188.out; have hnc27 := NB188_196.out; have hnb28 := NB196_192.out; have hnc28 := NB192_196.out; have hcz29_0 : w25.cell? ⟨gb196, 0, none⟩ = some (.int .i64 0) := (blk_cell BK196.out 0).trans rfl; have hcz29_1 : w25.cell? ⟨gb196, 1, none⟩ = some (.int .i64 0) := (blk_cell BK196.out 1).trans rfl; have hfz29_0 := blk_frozen BK196.out 0; have hfz29_1 := blk_frozen BK196.out 1))
  (try simp only [Act.put, List.setIfInBounds_toArray, List.set_cons_zero, List.set_cons_succ])
  go_cut [45] (fun v45 wc => ∃ (kq : Nat) (x45_8 : Bool), v45 = .bool x45_8 ∧ Aside0 (heronrylaw12_SpanMeets.j0 kq a4 t186 t191 x45_8 a0 a1 a2 a3 t189 t190 = some r) ∧ Aside0 (kq ≤ k) ∧ Aside0 (wc.heap[gb187]? = some (.cells #[.int .i64 a0, .int .i64 a1] 28 (0, 0))) ∧ Aside0 (wc.heap[gb188]? = some (.cells #[.int .i64 a2, .int .i64 a3] 28 (0, 0))) ∧ Aside0 (wc.heap[gb192]? = some (.cells #[.int .i64 t189, .int .i64 t190] 28 (0, 0))) ∧ Aside0 (wc.heap[gb196]? = some (.cells #[.int .i64 t193, .int .i64 t194] 28 (0, 0))) ∧ Aside0 (Below w.heap.size w wc))
  case first =>
    have H := HC9.out
    clear HC9
    by_cases c30 : (!(t189 == t193) || (!(t190 == t194))) = true
    · rw [if_pos c30] at H
      have c30b0 : (!(t189 == t193) || (!(t190 == t194))) = true := c30
      clear c30
      (first | rw [c30b0] | (simp only [i64_w, i32_w]; rw [c30b0]) | skip)
      have H' := Aside0.mk H
      clear H
      have hnb31 := NB192_187.out
      have hnc31 := NB187_192.out
      have hnb32 := NB192_188.out
      have hnc32 := NB188_192.out
      have hnb33 := NB192_196.out
      have hnc33 := NB196_192.out
      have hcz34_0 : w25.cell? ⟨gb192, 0, none⟩ = some (.int .i64 t189) := (blk_cell BK192.out 0).trans rfl
      have hcz34_1 : w25.cell? ⟨gb192, 1, none⟩ = some (.int .i64 t190) := (blk_cell BK192.out 1).trans rfl
      have hfz34_0 := blk_frozen BK192.out 0
      have hfz34_1 := blk_frozen BK192.out 1
      have hnb35 := NB196_187.out
      have hnc35 := NB187_196.out
      have hnb36 := NB196_188.out
      have hnc36 := NB188_196.out
      have hcz37_0 : w25.cell? ⟨gb196, 0, none⟩ = some (.int .i64 0) := (blk_cell BK196.out 0).trans rfl
      have hcz37_1 : w25.cell? ⟨gb196, 1, none⟩ = some (.int .i64 0) := (blk_cell BK196.out 1).trans rfl
      have hfz37_0 := blk_frozen BK196.out 0
      have hfz37_1 := blk_frozen BK196.out 1
      go_wp2
      go_meet
      case rel => exact ⟨_, (true), (by first | rfl | (simp; done) | (simp [*]; done)), H', ⟨by first | omega | exact Nat.le_refl _⟩, ⟨by (with_reducible repeat (first | refine blk_drewN ?_ _ | refine blk_drew ?_ | refine blk_alloc ?_ _)); refine blk_far ?_ NB187_196.out _; (with_reducible repeat (first | refine blk_drewN ?_ _ | refine blk_drew ?_ | refine blk_alloc ?_ _)); refine blk_far ?_ NB187_196.out _; (with_reducible repeat (first | refine blk_drewN ?_ _ | refine blk_drew ?_ | refine blk_alloc ?_ _)); exact BK187.out⟩, ⟨by (with_reducible repeat (first | refine blk_drewN ?_ _ | refine blk_drew ?_ | refine blk_alloc ?_ _)); refine blk_far ?_ NB188_196.out _; (with_reducible repeat (first | refine blk_drewN ?_ _ | refine blk_drew ?_ | refine blk_alloc ?_ _)); refine blk_far ?_ NB188_196.out _; (with_reducible repeat (first | refine blk_drewN ?_ _ | refine blk_drew ?_ | refine blk_alloc ?_ _)); exact BK188.out⟩, ⟨by (with_reducible repeat (first | refine blk_drewN ?_ _ | refine blk_drew ?_ | refine blk_alloc ?_ _)); refine blk_far ?_ NB192_196.out _; (with_reducible repeat (first | refine blk_drewN ?_ _ | refine blk_drew ?_ | refine blk_alloc ?_ _)); refine blk_far ?_ NB192_196.out _; (with_reducible repeat (first | refine blk_drewN ?_ _ | refine blk_drew ?_ | refine blk_alloc ?_ _)); exact BK192.out⟩, ⟨by (with_reducible repeat (first | refine blk_drewN ?_ _ | refine blk_drew ?_ | refine blk_alloc ?_ _)); refine blk_put (cs := #[.int .i64 t193, .int .i64 0]) ?_ 1 _ rfl; (with_reducible repeat (first | refine blk_drewN ?_ _ | refine blk_drew ?_ | refine blk_alloc ?_ _)); refine blk_put (cs := #[.int .i64 0, .int .i64 0]) ?_ 0 _ rfl; (with_reducible repeat (first | refine blk_drewN ?_ _ | refine blk_drew ?_ | refine blk_alloc ?_ _)); exact BK196.out⟩, ⟨by repeat (first | (with_reducible first | exact HB.out | apply below_alloc | apply pw_below_drewN | apply below_drew1 | refine below_set ?_ GE187.out | refine below_set ?_ GE188.out | refine below_set ?_ GE192.out | refine below_set ?_ GE196.out) | exact HB.out)⟩⟩
    · rw [if_neg c30] at H
      have c30b0 : (!(t189 == t193) || (!(t190 == t194))) = false := by simpa using c30
      clear c30
      (first | rw [c30b0] | (simp only [i64_w, i32_w]; rw [c30b0]) | skip)
      have H' := Aside0.mk H
      clear H
      have hnb38 := NB192_187.out
      have hnc38 := NB187_192.out
      have hnb39 := NB192_188.out
      have hnc39 := NB188_192.out
      have hnb40 := NB192_196.out
      have hnc40 := NB196_192.out
      have hcz41_0 : w25.cell? ⟨gb192, 0, none⟩ = some (.int .i64 t189) := (blk_cell BK192.out 0).trans rfl
      have hcz41_1 : w25.cell? ⟨gb192, 1, none⟩ = some (.int .i64 t190) := (blk_cell BK192.out 1).trans rfl
      have hfz41_0 := blk_frozen BK192.out 0
      have hfz41_1 := blk_frozen BK192.out 1
      have hnb42 := NB196_187.out
      have hnc42 := NB187_196.out
      have hnb43 := NB196_188.out
      have hnc43 := NB188_196.out
      have hcz44_0 : w25.cell? ⟨gb196, 0, none⟩ = some (.int .i64 0) := (blk_cell BK196.out 0).trans rfl
      have hcz44_1 : w25.cell? ⟨gb196, 1, none⟩ = some (.int .i64 0) := (blk_cell BK196.out 1).trans rfl
      have hfz44_0 := blk_frozen BK196.out 0
      have hfz44_1 := blk_frozen BK196.out 1
      go_wp2
      go_meet
      case rel => exact ⟨_, ((t191 != t195)), (by first | rfl | (simp; done) | (simp [*]; done)), H', ⟨by first | omega | exact Nat.le_refl _⟩, ⟨by (with_reducible repeat (first | refine blk_drewN ?_ _ | refine blk_drew ?_ | refine blk_alloc ?_ _)); refine blk_far ?_ NB187_196.out _; (with_reducible repeat (first | refine blk_drewN ?_ _ | refine blk_drew ?_ | refine blk_alloc ?_ _)); refine blk_far ?_ NB187_196.out _; (with_reducible repeat (first | refine blk_drewN ?_ _ | refine blk_drew ?_ | refine blk_alloc ?_ _)); exact BK187.out⟩, ⟨by (with_reducible repeat (first | refine blk_drewN ?_ _ | refine blk_drew ?_ | refine blk_alloc ?_ _)); refine blk_far ?_ NB188_196.out _; (with_reducible repeat (first | refine blk_drewN ?_ _ | refine blk_drew ?_ | refine blk_alloc ?_ _)); refine blk_far ?_ NB188_196.out _; (with_reducible repeat (first | refine blk_drewN ?_ _ | refine blk_drew ?_ | refine blk_alloc ?_ _)); exact BK188.out⟩, ⟨by (with_reducible repeat (first | refine blk_drewN ?_ _ | refine blk_drew ?_ | refine blk_alloc ?_ _)); refine blk_far ?_ NB192_196.out _; (with_reducible repeat (first | refine blk_drewN ?_ _ | refine blk_drew ?_ | refine blk_alloc ?_ _)); refine blk_far ?_ NB192_196.out _; (with_reducible repeat (first | refine blk_drewN ?_ _ | refine blk_drew ?_ | refine blk_alloc ?_ _)); exact BK192.out⟩, ⟨by (with_reducible repeat (first | refine blk_drewN ?_ _ | refine blk_drew ?_ | refine blk_alloc ?_ _)); refine blk_put (cs := #[.int .i64 t193, .int .i64 0]) ?_ 1 _ rfl; (with_reducible repeat (first | refine blk_drewN ?_ _ | refine blk_drew ?_ | refine blk_alloc ?_ _)); refine blk_put (cs := #[.int .i64 0, .int .i64 0]) ?_ 0 _ rfl; (with_reducible repeat (first | refine blk_drewN ?_ _ | refine blk_drew ?_ | refine blk_alloc ?_ _)); exact BK196.out⟩, ⟨by repeat (first | (with_reducible first | exact HB.out | apply below_alloc | apply pw_below_drewN | apply below_drew1 | refine below_set ?_ GE187.out | refine below_set ?_ GE188.out | refine below_set ?_ GE192.out | refine below_set ?_ GE196.out) | exact HB.out)⟩⟩
  case rest =>
    clear HC9
    try clear c1
    try clear c2
    try clear p2
    try clear c3
    try clear c4
    try clear c6
    try clear c10
    try clear c14
    try clear c16
    try clear c19
    try clear c20
    try clear c26
    try clear c27
    try clear c28
    try clear c30
    try clear c30b0
    try clear c31
    try clear c32
    try clear c33
    try clear c35
    try clear c36
    try clear c38
    try clear c39
    try clear c40
    try clear c42
    try clear c43
    try clear hcz12_0
    try clear hcz12_1
    try clear hcz15_0
    try clear hcz15_1
    try clear hcz16_0
    try clear hcz16_1
    try clear hcz21_0
    try clear hcz21_1
    try clear hcz22_0
    try clear hcz22_1
    try clear hcz23_0
    try clear hcz23_1
    try clear hcz29_0
    try clear hcz29_1
    try clear hcz34_0
    try clear hcz34_1
    try clear hcz37_0
    try clear hcz37_1
    try clear hcz41_0
    try clear hcz41_1
    try clear hcz44_0
    try clear hcz44_1
    try clear hfz12_0
    try clear hfz12_1
    try clear hfz15_0
    try clear hfz15_1
    try clear hfz16_0
    try clear hfz16_1
    try clear hfz21_0
    try clear hfz21_1
    try clear hfz22_0
    try clear hfz22_1
    try clear hfz23_0
    try clear hfz23_1
    try clear hfz29_0
    try clear hfz29_1
    try clear hfz34_0
    try clear hfz34_1
    try clear hfz37_0
    try clear hfz37_1
    try clear hfz41_0
    try clear hfz41_1
    try clear hfz44_0
    try clear hfz44_1
    obtain ⟨kq, x45_8, rfl, HA, HJ8, BK187, BK188, BK192, BK196, HB⟩ := hcut
    cases kq with
    | zero => exact absurd HA.out (by simp [heronrylaw12_SpanMeets.j0])
    | succ kj8 =>
      have H := HA.out
      clear HA
      simp only [heronrylaw12_SpanMeets.j0] at H
      by_cases c45 : x45_8 = true
      · subst c45
        have H1 : (some false) = some r := by rw [if_pos rfl] at H; exact H
        clear H
        have H := H1
        clear H1
        obtain rfl := Option.some.inj H
        go_wp2
        go_ret
        exact ⟨by first | rfl | (simp [errW_none, errW_some] <;> rfl) | (simp [*, errW_none, errW_some] <;> rfl), by repeat (first | (with_reducible first | exact HB.out | apply below_alloc | apply pw_below_drewN | apply below_drew1 | refine below_set ?_ GE187.out | refine below_set ?_ GE188.out | refine below_set ?_ GE192.out | refine below_set ?_ GE196.out) | exact HB.out)⟩
      · replace c45 := Bool.eq_false_iff.mpr c45
        subst c45
        have H1 : ((span_Holds.f a0 a1 a4).bind fun t197 => (if t197 = true then ((span_Holds.f a2 a3 a4).bind fun t198 => (if t186 = true then (if t191 = true then ((span_Holds.f t189 t190 a4).bind fun t199 => (if (t199 == t198) = true then (some true) else (some false))) else (if (false == t198) = true then (some (t189 == 0 && (t190 == 0))) else (some false))) else (some false))) else (if t186 = true then (if t191 = true then ((span_Holds.f t189 t190 a4).bind fun t200 => (if (t200 == false) = true then (some true) else (some false))) else (if (false == false) = true then (some (t189 == 0 && (t190 == 0))) else (some false))) else (some false)))) = some r := by rw [if_neg (show ¬ (false = true) by decide)] at H; exact H
        clear H
        have H := H1
        clear H1
        replace H := Option.bind_eq_some_iff.mp H
        obtain ⟨t197, A460, H⟩ := H
        replace H : (if t197 = true then ((span_Holds.f a2 a3 a4).bind fun t198 => (if t186 = true then (if t191 = true then ((span_Holds.f t189 t190 a4).bind fun t199 => (if (t199 == t198) = true then (some true) else (some false))) else (if (false == t198) = true then (some (t189 == 0 && (t190 == 0))) else (some false))) else (some false))) else (if t186 = true then (if t191 = true then ((span_Holds.f t189 t190 a4).bind fun t200 => (if (t200 == false) = true then (some true) else (some false))) else (if (false == false) = true then (some (t189 == 0 && (t190 == 0))) else (some false))) else (some false))) = some r := H
        have A46 := Aside0.mk A460
        clear A460
        by_cases c47 : t197 = true
        · subst c47
          have H1 : ((span_Holds.f a2 a3 a4).bind fun t198 => (if t186 = true then (if t191 = true then ((span_Holds.f t189 t190 a4).bind fun t199 => (if (t199 == t198) = true then (some true) else (some false))) else (if (false == t198) = true then (some (t189 == 0 && (t190 == 0))) else (some false))) else (some false))) = some r := by rw [if_pos rfl] at H; exact H
          clear H
          have H := H1
          clear H1
          replace H := Option.bind_eq_some_iff.mp H
          obtain ⟨t198, A480, H⟩ := H
          replace H : (if t186 = true then (if t191 = true then ((span_Holds.f t189 t190 a4).bind fun t199 => (if (t199 == t198) = true then (some true) else (some false))) else (if (false == t198) = true then (some (t189 == 0 && (t190 == 0))) else (some false))) else (some false)) = some r := H
          have A48 := Aside0.mk A480
          clear A480
          by_cases c49 : t186 = true
          · subst c49
            have H1 : (if t191 = true then ((span_Holds.f t189 t190 a4).bind fun t199 => (if (t199 == t198) = true then (some true) else (some false))) else (if (false == t198) = true then (some (t189 == 0 && (t190 == 0))) else (some false))) = some r := by rw [if_pos rfl] at H; exact H
            clear H
            have H := H1
            clear H1
            by_cases c50 : t191 = true
            · subst c50
              have H1 : ((span_Holds.f t189 t190 a4).bind fun t199 => (if (t199 == t198) = true then (some true) else (some false))) = some r := by rw [if_pos rfl] at H; exact H
              clear H
              have H := H1
              clear H1
              replace H := Option.bind_eq_some_iff.mp H
              obtain ⟨t199, A510, H⟩ := H
              replace H : (if (t199 == t198) = true then (some true) else (some false)) = some r := H
              have A51 := Aside0.mk A510
              clear A510
              by_cases c52 : (t199 == t198) = true
              · rw [if_pos c52] at H
                have c52b0 : (t199 == t198) = true := c52
                (try (have c52b1 : decide (t199 = t198) = true := by simpa using c52))
                (try (have c52b2 : (t199 == t198) = true := by simpa using c52))
                clear c52
                obtain rfl := Option.some.inj H
                have hnb53 := NB187_188.out
                have hnc53 := NB188_187.out
                have hnb54 := NB187_192.out
                have hnc54 := NB192_187.out
                have hnb55 := NB187_196.out
                have hnc55 := NB196_187.out
                have hcz56_0 : wc.cell? ⟨gb187, 0, none⟩ = some (.int .i64 a0) := (blk_cell BK187.out 0).trans rfl
                have hcz56_1 : wc.cell? ⟨gb187, 1, none⟩ = some (.int .i64 a1) := (blk_cell BK187.out 1).trans rfl
                have hfz56_0 := blk_frozen BK187.out 0
                have hfz56_1 := blk_frozen BK187.out 1
                go_wp2_with (first | ((with_reducible refine gate_callee (f := 13) rfl ?_); refine goesL_ (some 48) rfl rfl Try.func13 (by kernel_rfl) rfl #[.agg #[.int .i64 a0, .int .i64 a1], .int .i64 a4] rfl (by (try simp only [List.map_toArray, List.map_cons, List.map_nil]); first | done | rfl | (simp only [List.length_drop, List.length_take]; rfl)) ?_; (with_reducible refine (span_Holds.calls a0 a1 a4 true _ A46.out).mono ?_); rintro e w57 ⟨rfl, hb⟩; refine ⟨_, rfl, ?_⟩; have n0_ := Aside0.mk (blk_below (g := gb187) (o := .cells #[.int .i64 a0, .int .i64 a1] 28 (0, 0)) (by (with_reducible repeat (first | refine blk_drewN ?_ _ | refine blk_drew ?_ | refine blk_alloc ?_ _)); exact BK187.out) hb); have n1_ := Aside0.mk (blk_below (g := gb188) (o := .cells #[.int .i64 a2, .int .i64 a3] 28 (0, 0)) (by (with_reducible repeat (first | refine blk_drewN ?_ _ | refine blk_drew ?_ | refine blk_alloc ?_ _)); exact BK188.out) hb); have n2_ := Aside0.mk (blk_below (g := gb192) (o := .cells #[.int .i64 t189, .int .i64 t190] 28 (0, 0)) (by (with_reducible repeat (first | refine blk_drewN ?_ _ | refine blk_drew ?_ | refine blk_alloc ?_ _)); exact BK192.out) hb); have n3_ := Aside0.mk (blk_below (g := gb196) (o := .cells #[.int .i64 t193, .int .i64 t194] 28 (0, 0)) (by (with_reducible repeat (first | refine blk_drewN ?_ _ | refine blk_drew ?_ | refine blk_alloc ?_ _)); exact BK196.out) hb); have n4_ := Aside0.mk (below_step (by repeat (first | (with_reducible first | exact HB.out | apply below_alloc | apply pw_below_drewN | apply below_drew1 | refine below_set ?_ GE187.out | refine below_set ?_ GE188.out | refine below_set ?_ GE192.out | refine below_set ?_ GE196.out) | exact HB.out)) hb); clear BK187; clear BK188; clear BK192; clear BK196; clear HB; have BK187 := n0_; have BK188 := n1_; have BK192 := n2_; have BK196 := n3_; have HB := n4_; clear n0_ n1_ n2_ n3_ n4_; (try clear hb); (try clear hb2); (try clear hk); (try clear hi); have hnb58 := NB188_192.out; have hnc58 := NB192_188.out; have hnb59 := NB188_196.out; have hnc59 := NB196_188.out; have hcz60_0 : w57.cell? ⟨gb188, 0, none⟩ = some (.int .i64 a2) := (blk_cell BK188.out 0).trans rfl; have hcz60_1 : w57.cell? ⟨gb188, 1, none⟩ = some (.int .i64 a3) := (blk_cell BK188.out 1).trans rfl; have hfz60_0 := blk_frozen BK188.out 0; have hfz60_1 := blk_frozen BK188.out 1) | (go_at_call 13; (with_reducible refine (span_Holds.calls a2 a3 a4 t198 _ A48.out).mono ?_); rintro e w61 ⟨rfl, hb⟩; have n0_ := Aside0.mk (blk_below (g := gb187) (o := .cells #[.int .i64 a0, .int .i64 a1] 28 (0, 0)) (by (with_reducible repeat (first | refine blk_drewN ?_ _ | refine blk_drew ?_ | refine blk_alloc ?_ _)); exact BK187.out) hb); have n1_ := Aside0.mk (blk_below (g := gb188) (o := .cells #[.int .i64 a2, .int .i64 a3] 28 (0, 0)) (by (with_reducible repeat (first | refine blk_drewN ?_ _ | refine blk_drew ?_ | refine blk_alloc ?_ _)); exact BK188.out) hb); have n2_ := Aside0.mk (blk_below (g := gb192) (o := .cells #[.int .i64 t189, .int .i64 t190] 28 (0, 0)) (by (with_reducible repeat (first | refine blk_drewN ?_ _ | refine blk_drew ?_ | refine blk_alloc ?_ _)); exact BK192.out) hb); have n3_ := Aside0.mk (blk_below (g := gb196) (o := .cells #[.int .i64 t193, .int .i64 t194] 28 (0, 0)) (by (with_reducible repeat (first | refine blk_drewN ?_ _ | refine blk_drew ?_ | refine blk_alloc ?_ _)); exact BK196.out) hb); have n4_ := Aside0.mk (below_step (by repeat (first | (with_reducible first | exact HB.out | apply below_alloc | apply pw_below_drewN | apply below_drew1 | refine below_set ?_ GE187.out | refine below_set ?_ GE188.out | refine below_set ?_ GE192.out | refine below_set ?_ GE196.out) | exact HB.out)) hb); clear BK187; clear BK188; clear BK192; clear BK196; clear HB; have BK187 := n0_; have BK188 := n1_; have BK192 := n2_; have BK196 := n3_; have HB := n4_; clear n0_ n1_ n2_ n3_ n4_; (try clear hb); (try clear hb2); (try clear hk); (try clear hi); have hnb62 := NB192_196.out; have hnc62 := NB196_192.out; have hcz63_0 : w61.cell? ⟨gb192, 0, none⟩ = some (.int .i64 t189) := (blk_cell BK192.out 0).trans rfl; have hcz63_1 : w61.cell? ⟨gb192, 1, none⟩ = some (.int .i64 t190) := (blk_cell BK192.out 1).trans rfl; have hfz63_0 := blk_frozen BK192.out 0; have hfz63_1 := blk_frozen BK192.out 1) | (go_at_call 13; (with_reducible refine (span_Holds.calls t189 t190 a4 t199 _ A51.out).mono ?_); rintro e w64 ⟨rfl, hb⟩; have n0_ := Aside0.mk (blk_below (g := gb187) (o := .cells #[.int .i64 a0, .int .i64 a1] 28 (0, 0)) (by (with_reducible repeat (first | refine blk_drewN ?_ _ | refine blk_drew ?_ | refine blk_alloc ?_ _)); exact BK187.out) hb); have n1_ := Aside0.mk (blk_below (g := gb188) (o := .cells #[.int .i64 a2, .int .i64 a3] 28 (0, 0)) (by (with_reducible repeat (first | refine blk_drewN ?_ _ | refine blk_drew ?_ | refine blk_alloc ?_ _)); exact BK188.out) hb); have n2_ := Aside0.mk (blk_below (g := gb192) (o := .cells #[.int .i64 t189, .int .i64 t190] 28 (0, 0)) (by (with_reducible repeat (first | refine blk_drewN ?_ _ | refine blk_drew ?_ | refine blk_alloc ?_ _)); exact BK192.out) hb); have n3_ := Aside0.mk (blk_below (g := gb196) (o := .cells #[.int .i64 t193, .int .i64 t194] 28 (0, 0)) (by (with_reducible repeat (first | refine blk_drewN ?_ _ | refine blk_drew ?_ | refine blk_alloc ?_ _)); exact BK196.out) hb); have n4_ := Aside0.mk (below_step (by repeat (first | (with_reducible first | exact HB.out | apply below_alloc | apply pw_below_drewN | apply below_drew1 | refine below_set ?_ GE187.out | refine below_set ?_ GE188.out | refine below_set ?_ GE192.out | refine below_set ?_ GE196.out) | exact HB.out)) hb); clear BK187; clear BK188; clear BK192; clear BK196; clear HB; have BK187 := n0_; have BK188 := n1_; have BK192 := n2_; have BK196 := n3_; have HB := n4_; clear n0_ n1_ n2_ n3_ n4_; (try clear hb); (try clear hb2); (try clear hk); (try clear hi)))
                go_ret
                exact ⟨by first | rfl | (simp [errW_none, errW_some] <;> rfl) | (simp [*, errW_none, errW_some] <;> rfl), by repeat (first | (with_reducible first | exact HB.out | apply below_alloc | apply pw_below_drewN | apply below_drew1 | refine below_set ?_ GE187.out | refine below_set ?_ GE188.out | refine below_set ?_ GE192.out | refine below_set ?_ GE196.out) | exact HB.out)⟩
              · rw [if_neg c52] at H
                have c52b0 : (t199 == t198) = false := by simpa using c52
                (try (have c52b1 : decide (t199 = t198) = false := by simpa using c52))
                (try (have c52b2 : (t199 == t198) = false := by simpa using c52))
                (try (have c52b3 : ¬ (t199 = t198) := by simpa using c52))
                clear c52
                obtain rfl := Option.some.inj H
                have hnb65 := NB187_188.out
                have hnc65 := NB188_187.out
                have hnb66 := NB187_192.out
                have hnc66 := NB192_187.out
                have hnb67 := NB187_196.out
                have hnc67 := NB196_187.out
                have hcz68_0 : wc.cell? ⟨gb187, 0, none⟩ = some (.int .i64 a0) := (blk_cell BK187.out 0).trans rfl
                have hcz68_1 : wc.cell? ⟨gb187, 1, none⟩ = some (.int .i64 a1) := (blk_cell BK187.out 1).trans rfl
                have hfz68_0 := blk_frozen BK187.out 0
                have hfz68_1 := blk_frozen BK187.out 1
                go_wp2_with (first | ((with_reducible refine gate_callee (f := 13) rfl ?_); refine goesL_ (some 48) rfl rfl Try.func13 (by kernel_rfl) rfl #[.agg #[.int .i64 a0, .int .i64 a1], .int .i64 a4] rfl (by (try simp only [List.map_toArray, List.map_cons, List.map_nil]); first | done | rfl | (simp only [List.length_drop, List.length_take]; rfl)) ?_; (with_reducible refine (span_Holds.calls a0 a1 a4 true _ A46.out).mono ?_); rintro e w69 ⟨rfl, hb⟩; refine ⟨_, rfl, ?_⟩; have n0_ := Aside0.mk (blk_below (g := gb187) (o := .cells #[.int .i64 a0, .int .i64 a1] 28 (0, 0)) (by (with_reducible repeat (first | refine blk_drewN ?_ _ | refine blk_drew ?_ | refine blk_alloc ?_ _)); exact BK187.out) hb); have n1_ := Aside0.mk (blk_below (g := gb188) (o := .cells #[.int .i64 a2, .int .i64 a3] 28 (0, 0)) (by (with_reducible repeat (first | refine blk_drewN ?_ _ | refine blk_drew ?_ | refine blk_alloc ?_ _)); exact BK188.out) hb); have n2_ := Aside0.mk (blk_below (g := gb192) (o := .cells #[.int .i64 t189, .int .i64 t190] 28 (0, 0)) (by (with_reducible repeat (first | refine blk_drewN ?_ _ | refine blk_drew ?_ | refine blk_alloc ?_ _)); exact BK192.out) hb); have n3_ := Aside0.mk (blk_below (g := gb196) (o := .cells #[.int .i64 t193, .int .i64 t194] 28 (0, 0)) (by (with_reducible repeat (first | refine blk_drewN ?_ _ | refine blk_drew ?_ | refine blk_alloc ?_ _)); exact BK196.out) hb); have n4_ := Aside0.mk (below_step (by repeat (first | (with_reducible first | exact HB.out | apply below_alloc | apply pw_below_drewN | apply below_drew1 | refine below_set ?_ GE187.out | refine below_set ?_ GE188.out | refine below_set ?_ GE192.out | refine below_set ?_ GE196.out) | exact HB.out)) hb); clear BK187; clear BK188; clear BK192; clear BK196; clear HB; have BK187 := n0_; have BK188 := n1_; have BK192 := n2_; have BK196 := n3_; have HB := n4_; clear n0_ n1_ n2_ n3_ n4_; (try clear hb); (try clear hb2); (try clear hk); (try clear hi); have hnb70 := NB188_192.out; have hnc70 := NB192_188.out; have hnb71 := NB188_196.out; have hnc71 := NB196_188.out; have hcz72_0 : w69.cell? ⟨gb188, 0, none⟩ = some (.int .i64 a2) := (blk_cell BK188.out 0).trans rfl; have hcz72_1 : w69.cell? ⟨gb188, 1, none⟩ = some (.int .i64 a3) := (blk_cell BK188.out 1).trans rfl; have hfz72_0 := blk_frozen BK188.out 0; have hfz72_1 := blk_frozen BK188.out 1) | (go_at_call 13; (with_reducible refine (span_Holds.calls a2 a3 a4 t198 _ A48.out).mono ?_); rintro e w73 ⟨rfl, hb⟩; have n0_ := Aside0.mk (blk_below (g := gb187) (o := .cells #[.int .i64 a0, .int .i64 a1] 28 (0, 0)) (by (with_reducible repeat (first | refine blk_drewN ?_ _ | refine blk_drew ?_ | refine blk_alloc ?_ _)); exact BK187.out) hb); have n1_ := Aside0.mk (blk_below (g := gb188) (o := .cells #[.int .i64 a2, .int .i64 a3] 28 (0, 0)) (by (with_reducible repeat (first | refine blk_drewN ?_ _ | refine blk_drew ?_ | refine blk_alloc ?_ _)); exact BK188.out) hb); have n2_ := Aside0.mk (blk_below (g := gb192) (o := .cells #[.int .i64 t189, .int .i64 t190] 28 (0, 0)) (by (with_reducible repeat (first | refine blk_drewN ?_ _ | refine blk_drew ?_ | refine blk_alloc ?_ _)); exact BK192.out) hb); have n3_ := Aside0.mk (blk_below (g := gb196) (o := .cells #[.int .i64 t193, .int .i64 t194] 28 (0, 0)) (by (with_reducible repeat (first | refine blk_drewN ?_ _ | refine blk_drew ?_ | refine blk_alloc ?_ _)); exact BK196.out) hb); have n4_ := Aside0.mk (below_step (by repeat (first | (with_reducible first | exact HB.out | apply below_alloc | apply pw_below_drewN | apply below_drew1 | refine below_set ?_ GE187.out | refine below_set ?_ GE188.out | refine below_set ?_ GE192.out | refine below_set ?_ GE196.out) | exact HB.out)) hb); clear BK187; clear BK188; clear BK192; clear BK196; clear HB; have BK187 := n0_; have BK188 := n1_; have BK192 := n2_; have BK196 := n3_; have HB := n4_; clear n0_ n1_ n2_ n3_ n4_; (try clear hb); (try clear hb2); (try clear hk); (try clear hi); have hnb74 := NB192_196.out; have hnc74 := NB196_192.out; have hcz75_0 : w73.cell? ⟨gb192, 0, none⟩ = some (.int .i64 t189) := (blk_cell BK192.out 0).trans rfl; have hcz75_1 : w73.cell? ⟨gb192, 1, none⟩ = some (.int .i64 t190) := (blk_cell BK192.out 1).trans rfl; have hfz75_0 := blk_frozen BK192.out 0; have hfz75_1 := blk_frozen BK192.out 1) | (go_at_call 13; (with_reducible refine (span_Holds.calls t189 t190 a4 t199 _ A51.out).mono ?_); rintro e w76 ⟨rfl, hb⟩; have n0_ := Aside0.mk (blk_below (g := gb187) (o := .cells #[.int .i64 a0, .int .i64 a1] 28 (0, 0)) (by (with_reducible repeat (first | refine blk_drewN ?_ _ | refine blk_drew ?_ | refine blk_alloc ?_ _)); exact BK187.out) hb); have n1_ := Aside0.mk (blk_below (g := gb188) (o := .cells #[.int .i64 a2, .int .i64 a3] 28 (0, 0)) (by (with_reducible repeat (first | refine blk_drewN ?_ _ | refine blk_drew ?_ | refine blk_alloc ?_ _)); exact BK188.out) hb); have n2_ := Aside0.mk (blk_below (g := gb192) (o := .cells #[.int .i64 t189, .int .i64 t190] 28 (0, 0)) (by (with_reducible repeat (first | refine blk_drewN ?_ _ | refine blk_drew ?_ | refine blk_alloc ?_ _)); exact BK192.out) hb); have n3_ := Aside0.mk (blk_below (g := gb196) (o := .cells #[.int .i64 t193, .int .i64 t194] 28 (0, 0)) (by (with_reducible repeat (first | refine blk_drewN ?_ _ | refine blk_drew ?_ | refine blk_alloc ?_ _)); exact BK196.out) hb); have n4_ := Aside0.mk (below_step (by repeat (first | (with_reducible first | exact HB.out | apply below_alloc | apply pw_below_drewN | apply below_drew1 | refine below_set ?_ GE187.out | refine below_set ?_ GE188.out | refine below_set ?_ GE192.out | refine below_set ?_ GE196.out) | exact HB.out)) hb); clear BK187; clear BK188; clear BK192; clear BK196; clear HB; have BK187 := n0_; have BK188 := n1_; have BK192 := n2_; have BK196 := n3_; have HB := n4_; clear n0_ n1_ n2_ n3_ n4_; (try clear hb); (try clear hb2); (try clear hk); (try clear hi)))
                go_ret
                exact ⟨by first | rfl | (simp [errW_none, errW_some] <;> rfl) | (simp [*, errW_none, errW_some] <;> rfl), by repeat (first | (with_reducible first | exact HB.out | apply below_alloc | apply pw_below_drewN | apply below_drew1 | refine below_set ?_ GE187.out | refine below_set ?_ GE188.out | refine below_set ?_ GE192.out | refine below_set ?_ GE196.out) | exact HB.out)⟩
            · replace c50 := Bool.eq_false_iff.mpr c50
              subst c50
              have H1 : (if (false == t198) = true then (some (t189 == 0 && (t190 == 0))) else (some false)) = some r := by rw [if_neg (show ¬ (false = true) by decide)] at H; exact H
              clear H
              have H := H1
              clear H1
              by_cases c77 : (false == t198) = true
              · rw [if_pos c77] at H
                have c77b0 : (false == t198) = true := c77
                (try (have c77b1 : decide (false = t198) = true := by simpa using c77))
                (try (have c77b2 : (false == t198) = true := by simpa using c77))
                clear c77
                obtain rfl := Option.some.inj H
                have hnb78 := NB187_188.out
                have hnc78 := NB188_187.out
                have hnb79 := NB187_192.out
                have hnc79 := NB192_187.out
                have hnb80 := NB187_196.out
                have hnc80 := NB196_187.out
                have hcz81_0 : wc.cell? ⟨gb187, 0, none⟩ = some (.int .i64 a0) := (blk_cell BK187.out 0).trans rfl
                have hcz81_1 : wc.cell? ⟨gb187, 1, none⟩ = some (.int .i64 a1) := (blk_cell BK187.out 1).trans rfl
                have hfz81_0 := blk_frozen BK187.out 0
                have hfz81_1 := blk_frozen BK187.out 1
                go_wp2_with (first | ((with_reducible refine gate_callee (f := 13) rfl ?_); refine goesL_ (some 48) rfl rfl Try.func13 (by kernel_rfl) rfl #[.agg #[.int .i64 a0, .int .i64 a1], .int .i64 a4] rfl (by (try simp only [List.map_toArray, List.map_cons, List.map_nil]); first | done | rfl | (simp only [List.length_drop, List.length_take]; rfl)) ?_; (with_reducible refine (span_Holds.calls a0 a1 a4 true _ A46.out).mono ?_); rintro e w82 ⟨rfl, hb⟩; refine ⟨_, rfl, ?_⟩; have n0_ := Aside0.mk (blk_below (g := gb187) (o := .cells #[.int .i64 a0, .int .i64 a1] 28 (0, 0)) (by (with_reducible repeat (first | refine blk_drewN ?_ _ | refine blk_drew ?_ | refine blk_alloc ?_ _)); exact BK187.out) hb); have n1_ := Aside0.mk (blk_below (g := gb188) (o := .cells #[.int .i64 a2, .int .i64 a3] 28 (0, 0)) (by (with_reducible repeat (first | refine blk_drewN ?_ _ | refine blk_drew ?_ | refine blk_alloc ?_ _)); exact BK188.out) hb); have n2_ := Aside0.mk (blk_below (g := gb192) (o := .cells #[.int .i64 t189, .int .i64 t190] 28 (0, 0)) (by (with_reducible repeat (first | refine blk_drewN ?_ _ | refine blk_drew ?_ | refine blk_alloc ?_ _)); exact BK192.out) hb); have n3_ := Aside0.mk (blk_below (g := gb196) (o := .cells #[.int .i64 t193, .int .i64 t194] 28 (0, 0)) (by (with_reducible repeat (first | refine blk_drewN ?_ _ | refine blk_drew ?_ | refine blk_alloc ?_ _)); exact BK196.out) hb); have n4_ := Aside0.mk (below_step (by repeat (first | (with_reducible first | exact HB.out | apply below_alloc | apply pw_below_drewN | apply below_drew1 | refine below_set ?_ GE187.out | refine below_set ?_ GE188.out | refine below_set ?_ GE192.out | refine below_set ?_ GE196.out) | exact HB.out)) hb); clear BK187; clear BK188; clear BK192; clear BK196; clear HB; have BK187 := n0_; have BK188 := n1_; have BK192 := n2_; have BK196 := n3_; have HB := n4_; clear n0_ n1_ n2_ n3_ n4_; (try clear hb); (try clear hb2); (try clear hk); (try clear hi); have hnb83 := NB188_192.out; have hnc83 := NB192_188.out; have hnb84 := NB188_196.out; have hnc84 := NB196_188.out; have hcz85_0 : w82.cell? ⟨gb188, 0, none⟩ = some (.int .i64 a2) := (blk_cell BK188.out 0).trans rfl; have hcz85_1 : w82.cell? ⟨gb188, 1, none⟩ = some (.int .i64 a3) := (blk_cell BK188.out 1).trans rfl; have hfz85_0 := blk_frozen BK188.out 0; have hfz85_1 := blk_frozen BK188.out 1) | (go_at_call 13; (with_reducible refine (span_Holds.calls a2 a3 a4 t198 _ A48.out).mono ?_); rintro e w86 ⟨rfl, hb⟩; have n0_ := Aside0.mk (blk_below (g := gb187) (o := .cells #[.int .i64 a0, .int .i64 a1] 28 (0, 0)) (by (with_reducible repeat (first | refine blk_drewN ?_ _ | refine blk_drew ?_ | refine blk_alloc ?_ _)); exact BK187.out) hb); have n1_ := Aside0.mk (blk_below (g := gb188) (o := .cells #[.int .i64 a2, .int .i64 a3] 28 (0, 0)) (by (with_reducible repeat (first | refine blk_drewN ?_ _ | refine blk_drew ?_ | refine blk_alloc ?_ _)); exact BK188.out) hb); have n2_ := Aside0.mk (blk_below (g := gb192) (o := .cells #[.int .i64 t189, .int .i64 t190] 28 (0, 0)) (by (with_reducible repeat (first | refine blk_drewN ?_ _ | refine blk_drew ?_ | refine blk_alloc ?_ _)); exact BK192.out) hb); have n3_ := Aside0.mk (blk_below (g := gb196) (o := .cells #[.int .i64 t193, .int .i64 t194] 28 (0, 0)) (by (with_reducible repeat (first | refine blk_drewN ?_ _ | refine blk_drew ?_ | refine blk_alloc ?_ _)); exact BK196.out) hb); have n4_ := Aside0.mk (below_step (by repeat (first | (with_reducible first | exact HB.out | apply below_alloc | apply pw_below_drewN | apply below_drew1 | refine below_set ?_ GE187.out | refine below_set ?_ GE188.out | refine below_set ?_ GE192.out | refine below_set ?_ GE196.out) | exact HB.out)) hb); clear BK187; clear BK188; clear BK192; clear BK196; clear HB; have BK187 := n0_; have BK188 := n1_; have BK192 := n2_; have BK196 := n3_; have HB := n4_; clear n0_ n1_ n2_ n3_ n4_; (try clear hb); (try clear hb2); (try clear hk); (try clear hi); have hnb87 := NB192_196.out; have hnc87 := NB196_192.out; have hcz88_0 : w86.cell? ⟨gb192, 0, none⟩ = some (.int .i64 t189) := (blk_cell BK192.out 0).trans rfl; have hcz88_1 : w86.cell? ⟨gb192, 1, none⟩ = some (.int .i64 t190) := (blk_cell BK192.out 1).trans rfl; have hfz88_0 := blk_frozen BK192.out 0; have hfz88_1 := blk_frozen BK192.out 1))
                go_ret
                exact ⟨by first | rfl | (simp [errW_none, errW_some] <;> rfl) | (simp [*, errW_none, errW_some] <;> rfl), by repeat (first | (with_reducible first | exact HB.out | apply below_alloc | apply pw_below_drewN | apply below_drew1 | refine below_set ?_ GE187.out | refine below_set ?_ GE188.out | refine below_set ?_ GE192.out | refine below_set ?_ GE196.out) | exact HB.out)⟩
              · rw [if_neg c77] at H
                have c77b0 : (false == t198) = false := by simpa using c77
                (try (have c77b1 : decide (false = t198) = false := by simpa using c77))
                (try (have c77b2 : (false == t198) = false := by simpa using c77))
                (try (have c77b3 : ¬ (false = t198) := by simpa using c77))
                clear c77
                obtain rfl := Option.some.inj H
                have hnb89 := NB187_188.out
                have hnc89 := NB188_187.out
                have hnb90 := NB187_192.out
                have hnc90 := NB192_187.out
                have hnb91 := NB187_196.out
                have hnc91 := NB196_187.out
                have hcz92_0 : wc.cell? ⟨gb187, 0, none⟩ = some (.int .i64 a0) := (blk_cell BK187.out 0).trans rfl
                have hcz92_1 : wc.cell? ⟨gb187, 1, none⟩ = some (.int .i64 a1) := (blk_cell BK187.out 1).trans rfl
                have hfz92_0 := blk_frozen BK187.out 0
                have hfz92_1 := blk_frozen BK187.out 1
                go_wp2_with (first | ((with_reducible refine gate_callee (f := 13) rfl ?_); refine goesL_ (some 48) rfl rfl Try.func13 (by kernel_rfl) rfl #[.agg #[.int .i64 a0, .int .i64 a1], .int .i64 a4] rfl (by (try simp only [List.map_toArray, List.map_cons, List.map_nil]); first | done | rfl | (simp only [List.length_drop, List.length_take]; rfl)) ?_; (with_reducible refine (span_Holds.calls a0 a1 a4 true _ A46.out).mono ?_); rintro e w93 ⟨rfl, hb⟩; refine ⟨_, rfl, ?_⟩; have n0_ := Aside0.mk (blk_below (g := gb187) (o := .cells #[.int .i64 a0, .int .i64 a1] 28 (0, 0)) (by (with_reducible repeat (first | refine blk_drewN ?_ _ | refine blk_drew ?_ | refine blk_alloc ?_ _)); exact BK187.out) hb); have n1_ := Aside0.mk (blk_below (g := gb188) (o := .cells #[.int .i64 a2, .int .i64 a3] 28 (0, 0)) (by (with_reducible repeat (first | refine blk_drewN ?_ _ | refine blk_drew ?_ | refine blk_alloc ?_ _)); exact BK188.out) hb); have n2_ := Aside0.mk (blk_below (g := gb192) (o := .cells #[.int .i64 t189, .int .i64 t190] 28 (0, 0)) (by (with_reducible repeat (first | refine blk_drewN ?_ _ | refine blk_drew ?_ | refine blk_alloc ?_ _)); exact BK192.out) hb); have n3_ := Aside0.mk (blk_below (g := gb196) (o := .cells #[.int .i64 t193, .int .i64 t194] 28 (0, 0)) (by (with_reducible repeat (first | refine blk_drewN ?_ _ | refine blk_drew ?_ | refine blk_alloc ?_ _)); exact BK196.out) hb); have n4_ := Aside0.mk (below_step (by repeat (first | (with_reducible first | exact HB.out | apply below_alloc | apply pw_below_drewN | apply below_drew1 | refine below_set ?_ GE187.out | refine below_set ?_ GE188.out | refine below_set ?_ GE192.out | refine below_set ?_ GE196.out) | exact HB.out)) hb); clear BK187; clear BK188; clear BK192; clear BK196; clear HB; have BK187 := n0_; have BK188 := n1_; have BK192 := n2_; have BK196 := n3_; have HB := n4_; clear n0_ n1_ n2_ n3_ n4_; (try clear hb); (try clear hb2); (try clear hk); (try clear hi); have hnb94 := NB188_192.out; have hnc94 := NB192_188.out; have hnb95 := NB188_196.out; have hnc95 := NB196_188.out; have hcz96_0 : w93.cell? ⟨gb188, 0, none⟩ = some (.int .i64 a2) := (blk_cell BK188.out 0).trans rfl; have hcz96_1 : w93.cell? ⟨gb188, 1, none⟩ = some (.int .i64 a3) := (blk_cell BK188.out 1).trans rfl; have hfz96_0 := blk_frozen BK188.out 0; have hfz96_1 := blk_frozen BK188.out 1) | (go_at_call 13; (with_reducible refine (span_Holds.calls a2 a3 a4 t198 _ A48.out).mono ?_); rintro e w97 ⟨rfl, hb⟩; have n0_ := Aside0.mk (blk_below (g := gb187) (o := .cells #[.int .i64 a0, .int .i64 a1] 28 (0, 0)) (by (with_reducible repeat (first | refine blk_drewN ?_ _ | refine blk_drew ?_ | refine blk_alloc ?_ _)); exact BK187.out) hb); have n1_ := Aside0.mk (blk_below (g := gb188) (o := .cells #[.int .i64 a2, .int .i64 a3] 28 (0, 0)) (by (with_reducible repeat (first | refine blk_drewN ?_ _ | refine blk_drew ?_ | refine blk_alloc ?_ _)); exact BK188.out) hb); have n2_ := Aside0.mk (blk_below (g := gb192) (o := .cells #[.int .i64 t189, .int .i64 t190] 28 (0, 0)) (by (with_reducible repeat (first | refine blk_drewN ?_ _ | refine blk_drew ?_ | refine blk_alloc ?_ _)); exact BK192.out) hb); have n3_ := Aside0.mk (blk_below (g := gb196) (o := .cells #[.int .i64 t193, .int .i64 t194] 28 (0, 0)) (by (with_reducible repeat (first | refine blk_drewN ?_ _ | refine blk_drew ?_ | refine blk_alloc ?_ _)); exact BK196.out) hb); have n4_ := Aside0.mk (below_step (by repeat (first | (with_reducible first | exact HB.out | apply below_alloc | apply pw_below_drewN | apply below_drew1 | refine below_set ?_ GE187.out | refine below_set ?_ GE188.out | refine below_set ?_ GE192.out | refine below_set ?_ GE196.out) | exact HB.out)) hb); clear BK187; clear BK188; clear BK192; clear BK196; clear HB; have BK187 := n0_; have BK188 := n1_; have BK192 := n2_; have BK196 := n3_; have HB := n4_; clear n0_ n1_ n2_ n3_ n4_; (try clear hb); (try clear hb2); (try clear hk); (try clear hi)))
                go_ret
                exact ⟨by first | rfl | (simp [errW_none, errW_some] <;> rfl) | (simp [*, errW_none, errW_some] <;> rfl), by repeat (first | (with_reducible first | exact HB.out | apply below_alloc | apply pw_below_drewN | apply below_drew1 | refine below_set ?_ GE187.out | refine below_set ?_ GE188.out | refine below_set ?_ GE192.out | refine below_set ?_ GE196.out) | exact HB.out)⟩
          · replace c49 := Bool.eq_false_iff.mpr c49
            subst c49
            have H1 : (some false) = some r := by rw [if_neg (show ¬ (false = true) by decide)] at H; exact H
            clear H
            have H := H1
            clear H1
            obtain rfl := Option.some.inj H
            have hnb98 := NB187_188.out
            have hnc98 := NB188_187.out
            have hnb99 := NB187_192.out
            have hnc99 := NB192_187.out
            have hnb100 := NB187_196.out
            have hnc100 := NB196_187.out
            have hcz101_0 : wc.cell? ⟨gb187, 0, none⟩ = some (.int .i64 a0) := (blk_cell BK187.out 0).trans rfl
            have hcz101_1 : wc.cell? ⟨gb187, 1, none⟩ = some (.int .i64 a1) := (blk_cell BK187.out 1).trans rfl
            have hfz101_0 := blk_frozen BK187.out 0
            have hfz101_1 := blk_frozen BK187.out 1
            go_wp2_with (first | ((with_reducible refine gate_callee (f := 13) rfl ?_); refine goesL_ (some 48) rfl rfl Try.func13 (by kernel_rfl) rfl #[.agg #[.int .i64 a0, .int .i64 a1], .int .i64 a4] rfl (by (try simp only [List.map_toArray, List.map_cons, List.map_nil]); first | done | rfl | (simp only [List.length_drop, List.length_take]; rfl)) ?_; (with_reducible refine (span_Holds.calls a0 a1 a4 true _ A46.out).mono ?_); rintro e w102 ⟨rfl, hb⟩; refine ⟨_, rfl, ?_⟩; have n0_ := Aside0.mk (blk_below (g := gb187) (o := .cells #[.int .i64 a0, .int .i64 a1] 28 (0, 0)) (by (with_reducible repeat (first | refine blk_drewN ?_ _ | refine blk_drew ?_ | refine blk_alloc ?_ _)); exact BK187.out) hb); have n1_ := Aside0.mk (blk_below (g := gb188) (o := .cells #[.int .i64 a2, .int .i64 a3] 28 (0, 0)) (by (with_reducible repeat (first | refine blk_drewN ?_ _ | refine blk_drew ?_ | refine blk_alloc ?_ _)); exact BK188.out) hb); have n2_ := Aside0.mk (blk_below (g := gb192) (o := .cells #[.int .i64 t189, .int .i64 t190] 28 (0, 0)) (by (with_reducible repeat (first | refine blk_drewN ?_ _ | refine blk_drew ?_ | refine blk_alloc ?_ _)); exact BK192.out) hb); have n3_ := Aside0.mk (blk_below (g := gb196) (o := .cells #[.int .i64 t193, .int .i64 t194] 28 (0, 0)) (by (with_reducible repeat (first | refine blk_drewN ?_ _ | refine blk_drew ?_ | refine blk_alloc ?_ _)); exact BK196.out) hb); have n4_ := Aside0.mk (below_step (by repeat (first | (with_reducible first | exact HB.out | apply below_alloc | apply pw_below_drewN | apply below_drew1 | refine below_set ?_ GE187.out | refine below_set ?_ GE188.out | refine below_set ?_ GE192.out | refine below_set ?_ GE196.out) | exact HB.out)) hb); clear BK187; clear BK188; clear BK192; clear BK196; clear HB; have BK187 := n0_; have BK188 := n1_; have BK192 := n2_; have BK196 := n3_; have HB := n4_; clear n0_ n1_ n2_ n3_ n4_; (try clear hb); (try clear hb2); (try clear hk); (try clear hi); have hnb103 := NB188_192.out; have hnc103 := NB192_188.out; have hnb104 := NB188_196.out; have hnc104 := NB196_188.out; have hcz105_0 : w102.cell? ⟨gb188, 0, none⟩ = some (.int .i64 a2) := (blk_cell BK188.out 0).trans rfl; have hcz105_1 : w102.cell? ⟨gb188, 1, none⟩ = some (.int .i64 a3) := (blk_cell BK188.out 1).trans rfl; have hfz105_0 := blk_frozen BK188.out 0; have hfz105_1 := blk_frozen BK188.out 1) | (go_at_call 13; (with_reducible refine (span_Holds.calls a2 a3 a4 t198 _ A48.out).mono ?_); rintro e w106 ⟨rfl, hb⟩; have n0_ := Aside0.mk (blk_below (g := gb187) (o := .cells #[.int .i64 a0, .int .i64 a1] 28 (0, 0)) (by (with_reducible repeat (first | refine blk_drewN ?_ _ | refine blk_drew ?_ | refine blk_alloc ?_ _)); exact BK187.out) hb); have n1_ := Aside0.mk (blk_below (g := gb188) (o := .cells #[.int .i64 a2, .int .i64 a3] 28 (0, 0)) (by (with_reducible repeat (first | refine blk_drewN ?_ _ | refine blk_drew ?_ | refine blk_alloc ?_ _)); exact BK188.out) hb); have n2_ := Aside0.mk (blk_below (g := gb192) (o := .cells #[.int .i64 t189, .int .i64 t190] 28 (0, 0)) (by (with_reducible repeat (first | refine blk_drewN ?_ _ | refine blk_drew ?_ | refine blk_alloc ?_ _)); exact BK192.out) hb); have n3_ := Aside0.mk (blk_below (g := gb196) (o := .cells #[.int .i64 t193, .int .i64 t194] 28 (0, 0)) (by (with_reducible repeat (first | refine blk_drewN ?_ _ | refine blk_drew ?_ | refine blk_alloc ?_ _)); exact BK196.out) hb); have n4_ := Aside0.mk (below_step (by repeat (first | (with_reducible first | exact HB.out | apply below_alloc | apply pw_below_drewN | apply below_drew1 | refine below_set ?_ GE187.out | refine below_set ?_ GE188.out | refine below_set ?_ GE192.out | refine below_set ?_ GE196.out) | exact HB.out)) hb); clear BK187; clear BK188; clear BK192; clear BK196; clear HB; have BK187 := n0_; have BK188 := n1_; have BK192 := n2_; have BK196 := n3_; have HB := n4_; clear n0_ n1_ n2_ n3_ n4_; (try clear hb); (try clear hb2); (try clear hk); (try clear hi)))
            go_ret
            exact ⟨by first | rfl | (simp [errW_none, errW_some] <;> rfl) | (simp [*, errW_none, errW_some] <;> rfl), by repeat (first | (with_reducible first | exact HB.out | apply below_alloc | apply pw_below_drewN | apply below_drew1 | refine below_set ?_ GE187.out | refine below_set ?_ GE188.out | refine below_set ?_ GE192.out | refine below_set ?_ GE196.out) | exact HB.out)⟩
        · replace c47 := Bool.eq_false_iff.mpr c47
          subst c47
          have H1 : (if t186 = true then (if t191 = true then ((span_Holds.f t189 t190 a4).bind fun t200 => (if (t200 == false) = true then (some true) else (some false))) else (if (false == false) = true then (some (t189 == 0 && (t190 == 0))) else (some false))) else (some false)) = some r := by rw [if_neg (show ¬ (false = true) by decide)] at H; exact H
          clear H
          have H := H1
          clear H1
          by_cases c107 : t186 = true
          · subst c107
            have H1 : (if t191 = true then ((span_Holds.f t189 t190 a4).bind fun t200 => (if (t200 == false) = true then (some true) else (some false))) else (if (false == false) = true then (some (t189 == 0 && (t190 == 0))) else (some false))) = some r := by rw [if_pos rfl] at H; exact H
            clear H
            have H := H1
            clear H1
            by_cases c108 : t191 = true
            · subst c108
              have H1 : ((span_Holds.f t189 t190 a4).bind fun t200 => (if (t200 == false) = true then (some true) else (some false))) = some r := by rw [if_pos rfl] at H; exact H
              clear H
              have H := H1
              clear H1
              replace H := Option.bind_eq_some_iff.mp H
              obtain ⟨t200, A1090, H⟩ := H
              replace H : (if (t200 == false) = true then (some true) else (some false)) = some r := H
              have A109 := Aside0.mk A1090
              clear A1090
              by_cases c110 : (t200 == false) = true
              · rw [if_pos c110] at H
                have c110b0 : (t200 == false) = true := c110
                (try (have c110b1 : decide (t200 = false) = true := by simpa using c110))
                (try (have c110b2 : (t200 == false) = true := by simpa using c110))
                clear c110
                obtain rfl := Option.some.inj H
                have hnb111 := NB187_188.out
                have hnc111 := NB188_187.out
                have hnb112 := NB187_192.out
                have hnc112 := NB192_187.out
                have hnb113 := NB187_196.out
                have hnc113 := NB196_187.out
                have hcz114_0 : wc.cell? ⟨gb187, 0, none⟩ = some (.int .i64 a0) := (blk_cell BK187.out 0).trans rfl
                have hcz114_1 : wc.cell? ⟨gb187, 1, none⟩ = some (.int .i64 a1) := (blk_cell BK187.out 1).trans rfl
                have hfz114_0 := blk_frozen BK187.out 0
                have hfz114_1 := blk_frozen BK187.out 1
                go_wp2_with (first | ((with_reducible refine gate_callee (f := 13) rfl ?_); refine goesL_ (some 48) rfl rfl Try.func13 (by kernel_rfl) rfl #[.agg #[.int .i64 a0, .int .i64 a1], .int .i64 a4] rfl (by (try simp only [List.map_toArray, List.map_cons, List.map_nil]); first | done | rfl | (simp only [List.length_drop, List.length_take]; rfl)) ?_; (with_reducible refine (span_Holds.calls a0 a1 a4 false _ A46.out).mono ?_); rintro e w115 ⟨rfl, hb⟩; refine ⟨_, rfl, ?_⟩; have n0_ := Aside0.mk (blk_below (g := gb187) (o := .cells #[.int .i64 a0, .int .i64 a1] 28 (0, 0)) (by (with_reducible repeat (first | refine blk_drewN ?_ _ | refine blk_drew ?_ | refine blk_alloc ?_ _)); exact BK187.out) hb); have n1_ := Aside0.mk (blk_below (g := gb188) (o := .cells #[.int .i64 a2, .int .i64 a3] 28 (0, 0)) (by (with_reducible repeat (first | refine blk_drewN ?_ _ | refine blk_drew ?_ | refine blk_alloc ?_ _)); exact BK188.out) hb); have n2_ := Aside0.mk (blk_below (g := gb192) (o := .cells #[.int .i64 t189, .int .i64 t190] 28 (0, 0)) (by (with_reducible repeat (first | refine blk_drewN ?_ _ | refine blk_drew ?_ | refine blk_alloc ?_ _)); exact BK192.out) hb); have n3_ := Aside0.mk (blk_below (g := gb196) (o := .cells #[.int .i64 t193, .int .i64 t194] 28 (0, 0)) (by (with_reducible repeat (first | refine blk_drewN ?_ _ | refine blk_drew ?_ | refine blk_alloc ?_ _)); exact BK196.out) hb); have n4_ := Aside0.mk (below_step (by repeat (first | (with_reducible first | exact HB.out | apply below_alloc | apply pw_below_drewN | apply below_drew1 | refine below_set ?_ GE187.out | refine below_set ?_ GE188.out | refine below_set ?_ GE192.out | refine below_set ?_ GE196.out) | exact HB.out)) hb); clear BK187; clear BK188; clear BK192; clear BK196; clear HB; have BK187 := n0_; have BK188 := n1_; have BK192 := n2_; have BK196 := n3_; have HB := n4_; clear n0_ n1_ n2_ n3_ n4_; (try clear hb); (try clear hb2); (try clear hk); (try clear hi); have hnb116 := NB192_188.out; have hnc116 := NB188_192.out; have hnb117 := NB192_196.out; have hnc117 := NB196_192.out; have hcz118_0 : w115.cell? ⟨gb192, 0, none⟩ = some (.int .i64 t189) := (blk_cell BK192.out 0).trans rfl; have hcz118_1 : w115.cell? ⟨gb192, 1, none⟩ = some (.int .i64 t190) := (blk_cell BK192.out 1).trans rfl; have hfz118_0 := blk_frozen BK192.out 0; have hfz118_1 := blk_frozen BK192.out 1) | (go_at_call 13; (with_reducible refine (span_Holds.calls t189 t190 a4 t200 _ A109.out).mono ?_); rintro e w119 ⟨rfl, hb⟩; have n0_ := Aside0.mk (blk_below (g := gb187) (o := .cells #[.int .i64 a0, .int .i64 a1] 28 (0, 0)) (by (with_reducible repeat (first | refine blk_drewN ?_ _ | refine blk_drew ?_ | refine blk_alloc ?_ _)); exact BK187.out) hb); have n1_ := Aside0.mk (blk_below (g := gb188) (o := .cells #[.int .i64 a2, .int .i64 a3] 28 (0, 0)) (by (with_reducible repeat (first | refine blk_drewN ?_ _ | refine blk_drew ?_ | refine blk_alloc ?_ _)); exact BK188.out) hb); have n2_ := Aside0.mk (blk_below (g := gb192) (o := .cells #[.int .i64 t189, .int .i64 t190] 28 (0, 0)) (by (with_reducible repeat (first | refine blk_drewN ?_ _ | refine blk_drew ?_ | refine blk_alloc ?_ _)); exact BK192.out) hb); have n3_ := Aside0.mk (blk_below (g := gb196) (o := .cells #[.int .i64 t193, .int .i64 t194] 28 (0, 0)) (by (with_reducible repeat (first | refine blk_drewN ?_ _ | refine blk_drew ?_ | refine blk_alloc ?_ _)); exact BK196.out) hb); have n4_ := Aside0.mk (below_step (by repeat (first | (with_reducible first | exact HB.out | apply below_alloc | apply pw_below_drewN | apply below_drew1 | refine below_set ?_ GE187.out | refine below_set ?_ GE188.out | refine below_set ?_ GE192.out | refine below_set ?_ GE196.out) | exact HB.out)) hb); clear BK187; clear BK188; clear BK192; clear BK196; clear HB; have BK187 := n0_; have BK188 := n1_; have BK192 := n2_; have BK196 := n3_; have HB := n4_; clear n0_ n1_ n2_ n3_ n4_; (try clear hb); (try clear hb2); (try clear hk); (try clear hi)))
                go_ret
                exact ⟨by first | rfl | (simp [errW_none, errW_some] <;> rfl) | (simp [*, errW_none, errW_some] <;> rfl), by repeat (first | (with_reducible first | exact HB.out | apply below_alloc | apply pw_below_drewN | apply below_drew1 | refine below_set ?_ GE187.out | refine below_set ?_ GE188.out | refine below_set ?_ GE192.out | refine below_set ?_ GE196.out) | exact HB.out)⟩
              · rw [if_neg c110] at H
                have c110b0 : (t200 == false) = false := by simpa using c110
                (try (have c110b1 : decide (t200 = false) = false := by simpa using c110))
                (try (have c110b2 : (t200 == false) = false := by simpa using c110))
                (try (have c110b3 : ¬ (t200 = false) := by simpa using c110))
                clear c110
                obtain rfl := Option.some.inj H
                have hnb120 := NB187_188.out
                have hnc120 := NB188_187.out
                have hnb121 := NB187_192.out
                have hnc121 := NB192_187.out
                have hnb122 := NB187_196.out
                have hnc122 := NB196_187.out
                have hcz123_0 : wc.cell? ⟨gb187, 0, none⟩ = some (.int .i64 a0) := (blk_cell BK187.out 0).trans rfl
                have hcz123_1 : wc.cell? ⟨gb187, 1, none⟩ = some (.int .i64 a1) := (blk_cell BK187.out 1).trans rfl
                have hfz123_0 := blk_frozen BK187.out 0
                have hfz123_1 := blk_frozen BK187.out 1
                go_wp2_with (first | ((with_reducible refine gate_callee (f := 13) rfl ?_); refine goesL_ (some 48) rfl rfl Try.func13 (by kernel_rfl) rfl #[.agg #[.int .i64 a0, .int .i64 a1], .int .i64 a4] rfl (by (try simp only [List.map_toArray, List.map_cons, List.map_nil]); first | done | rfl | (simp only [List.length_drop, List.length_take]; rfl)) ?_; (with_reducible refine (span_Holds.calls a0 a1 a4 false _ A46.out).mono ?_); rintro e w124 ⟨rfl, hb⟩; refine ⟨_, rfl, ?_⟩; have n0_ := Aside0.mk (blk_below (g := gb187) (o := .cells #[.int .i64 a0, .int .i64 a1] 28 (0, 0)) (by (with_reducible repeat (first | refine blk_drewN ?_ _ | refine blk_drew ?_ | refine blk_alloc ?_ _)); exact BK187.out) hb); have n1_ := Aside0.mk (blk_below (g := gb188) (o := .cells #[.int .i64 a2, .int .i64 a3] 28 (0, 0)) (by (with_reducible repeat (first | refine blk_drewN ?_ _ | refine blk_drew ?_ | refine blk_alloc ?_ _)); exact BK188.out) hb); have n2_ := Aside0.mk (blk_below (g := gb192) (o := .cells #[.int .i64 t189, .int .i64 t190] 28 (0, 0)) (by (with_reducible repeat (first | refine blk_drewN ?_ _ | refine blk_drew ?_ | refine blk_alloc ?_ _)); exact BK192.out) hb); have n3_ := Aside0.mk (blk_below (g := gb196) (o := .cells #[.int .i64 t193, .int .i64 t194] 28 (0, 0)) (by (with_reducible repeat (first | refine blk_drewN ?_ _ | refine blk_drew ?_ | refine blk_alloc ?_ _)); exact BK196.out) hb); have n4_ := Aside0.mk (below_step (by repeat (first | (with_reducible first | exact HB.out | apply below_alloc | apply pw_below_drewN | apply below_drew1 | refine below_set ?_ GE187.out | refine below_set ?_ GE188.out | refine below_set ?_ GE192.out | refine below_set ?_ GE196.out) | exact HB.out)) hb); clear BK187; clear BK188; clear BK192; clear BK196; clear HB; have BK187 := n0_; have BK188 := n1_; have BK192 := n2_; have BK196 := n3_; have HB := n4_; clear n0_ n1_ n2_ n3_ n4_; (try clear hb); (try clear hb2); (try clear hk); (try clear hi); have hnb125 := NB192_188.out; have hnc125 := NB188_192.out; have hnb126 := NB192_196.out; have hnc126 := NB196_192.out; have hcz127_0 : w124.cell? ⟨gb192, 0, none⟩ = some (.int .i64 t189) := (blk_cell BK192.out 0).trans rfl; have hcz127_1 : w124.cell? ⟨gb192, 1, none⟩ = some (.int .i64 t190) := (blk_cell BK192.out 1).trans rfl; have hfz127_0 := blk_frozen BK192.out 0; have hfz127_1 := blk_frozen BK192.out 1) | (go_at_call 13; (with_reducible refine (span_Holds.calls t189 t190 a4 t200 _ A109.out).mono ?_); rintro e w128 ⟨rfl, hb⟩; have n0_ := Aside0.mk (blk_below (g := gb187) (o := .cells #[.int .i64 a0, .int .i64 a1] 28 (0, 0)) (by (with_reducible repeat (first | refine blk_drewN ?_ _ | refine blk_drew ?_ | refine blk_alloc ?_ _)); exact BK187.out) hb); have n1_ := Aside0.mk (blk_below (g := gb188) (o := .cells #[.int .i64 a2, .int .i64 a3] 28 (0, 0)) (by (with_reducible repeat (first | refine blk_drewN ?_ _ | refine blk_drew ?_ | refine blk_alloc ?_ _)); exact BK188.out) hb); have n2_ := Aside0.mk (blk_below (g := gb192) (o := .cells #[.int .i64 t189, .int .i64 t190] 28 (0, 0)) (by (with_reducible repeat (first | refine blk_drewN ?_ _ | refine blk_drew ?_ | refine blk_alloc ?_ _)); exact BK192.out) hb); have n3_ := Aside0.mk (blk_below (g := gb196) (o := .cells #[.int .i64 t193, .int .i64 t194] 28 (0, 0)) (by (with_reducible repeat (first | refine blk_drewN ?_ _ | refine blk_drew ?_ | refine blk_alloc ?_ _)); exact BK196.out) hb); have n4_ := Aside0.mk (below_step (by repeat (first | (with_reducible first | exact HB.out | apply below_alloc | apply pw_below_drewN | apply below_drew1 | refine below_set ?_ GE187.out | refine below_set ?_ GE188.out | refine below_set ?_ GE192.out | refine below_set ?_ GE196.out) | exact HB.out)) hb); clear BK187; clear BK188; clear BK192; clear BK196; clear HB; have BK187 := n0_; have BK188 := n1_; have BK192 := n2_; have BK196 := n3_; have HB := n4_; clear n0_ n1_ n2_ n3_ n4_; (try clear hb); (try clear hb2); (try clear hk); (try clear hi)))
                go_ret
                exact ⟨by first | rfl | (simp [errW_none, errW_some] <;> rfl) | (simp [*, errW_none, errW_some] <;> rfl), by repeat (first | (with_reducible first | exact HB.out | apply below_alloc | apply pw_below_drewN | apply below_drew1 | refine below_set ?_ GE187.out | refine below_set ?_ GE188.out | refine below_set ?_ GE192.out | refine below_set ?_ GE196.out) | exact HB.out)⟩
            · replace c108 := Bool.eq_false_iff.mpr c108
              subst c108
              have H1 : (if (false == false) = true then (some (t189 == 0 && (t190 == 0))) else (some false)) = some r := by rw [if_neg (show ¬ (false = true) by decide)] at H; exact H
              clear H
              have H := H1
              clear H1
              by_cases c129 : (false == false) = true
              · rw [if_pos c129] at H
                have c129b0 : (false == false) = true := c129
                (try (have c129b1 : decide (false = false) = true := by first | rfl | simpa using c129))
                (try (have c129b2 : (false == false) = true := by first | rfl | simpa using c129))
                clear c129
                obtain rfl := Option.some.inj H
                have hnb130 := NB187_188.out
                have hnc130 := NB188_187.out
                have hnb131 := NB187_192.out
                have hnc131 := NB192_187.out
                have hnb132 := NB187_196.out
                have hnc132 := NB196_187.out
                have hcz133_0 : wc.cell? ⟨gb187, 0, none⟩ = some (.int .i64 a0) := (blk_cell BK187.out 0).trans rfl
                have hcz133_1 : wc.cell? ⟨gb187, 1, none⟩ = some (.int .i64 a1) := (blk_cell BK187.out 1).trans rfl
                have hfz133_0 := blk_frozen BK187.out 0
                have hfz133_1 := blk_frozen BK187.out 1
                go_wp2_with (first | ((with_reducible refine gate_callee (f := 13) rfl ?_); refine goesL_ (some 48) rfl rfl Try.func13 (by kernel_rfl) rfl #[.agg #[.int .i64 a0, .int .i64 a1], .int .i64 a4] rfl (by (try simp only [List.map_toArray, List.map_cons, List.map_nil]); first | done | rfl | (simp only [List.length_drop, List.length_take]; rfl)) ?_; (with_reducible refine (span_Holds.calls a0 a1 a4 false _ A46.out).mono ?_); rintro e w134 ⟨rfl, hb⟩; refine ⟨_, rfl, ?_⟩; have n0_ := Aside0.mk (blk_below (g := gb187) (o := .cells #[.int .i64 a0, .int .i64 a1] 28 (0, 0)) (by (with_reducible repeat (first | refine blk_drewN ?_ _ | refine blk_drew ?_ | refine blk_alloc ?_ _)); exact BK187.out) hb); have n1_ := Aside0.mk (blk_below (g := gb188) (o := .cells #[.int .i64 a2, .int .i64 a3] 28 (0, 0)) (by (with_reducible repeat (first | refine blk_drewN ?_ _ | refine blk_drew ?_ | refine blk_alloc ?_ _)); exact BK188.out) hb); have n2_ := Aside0.mk (blk_below (g := gb192) (o := .cells #[.int .i64 t189, .int .i64 t190] 28 (0, 0)) (by (with_reducible repeat (first | refine blk_drewN ?_ _ | refine blk_drew ?_ | refine blk_alloc ?_ _)); exact BK192.out) hb); have n3_ := Aside0.mk (blk_below (g := gb196) (o := .cells #[.int .i64 t193, .int .i64 t194] 28 (0, 0)) (by (with_reducible repeat (first | refine blk_drewN ?_ _ | refine blk_drew ?_ | refine blk_alloc ?_ _)); exact BK196.out) hb); have n4_ := Aside0.mk (below_step (by repeat (first | (with_reducible first | exact HB.out | apply below_alloc | apply pw_below_drewN | apply below_drew1 | refine below_set ?_ GE187.out | refine below_set ?_ GE188.out | refine below_set ?_ GE192.out | refine below_set ?_ GE196.out) | exact HB.out)) hb); clear BK187; clear BK188; clear BK192; clear BK196; clear HB; have BK187 := n0_; have BK188 := n1_; have BK192 := n2_; have BK196 := n3_; have HB := n4_; clear n0_ n1_ n2_ n3_ n4_; (try clear hb); (try clear hb2); (try clear hk); (try clear hi); have hnb135 := NB192_188.out; have hnc135 := NB188_192.out; have hnb136 := NB192_196.out; have hnc136 := NB196_192.out; have hcz137_0 : w134.cell? ⟨gb192, 0, none⟩ = some (.int .i64 t189) := (blk_cell BK192.out 0).trans rfl; have hcz137_1 : w134.cell? ⟨gb192, 1, none⟩ = some (.int .i64 t190) := (blk_cell BK192.out 1).trans rfl; have hfz137_0 := blk_frozen BK192.out 0; have hfz137_1 := blk_frozen BK192.out 1))
                go_ret
                exact ⟨by first | rfl | (simp [errW_none, errW_some] <;> rfl) | (simp [*, errW_none, errW_some] <;> rfl), by repeat (first | (with_reducible first | exact HB.out | apply below_alloc | apply pw_below_drewN | apply below_drew1 | refine below_set ?_ GE187.out | refine below_set ?_ GE188.out | refine below_set ?_ GE192.out | refine below_set ?_ GE196.out) | exact HB.out)⟩
              · exact absurd (by decide) c129
          · replace c107 := Bool.eq_false_iff.mpr c107
            subst c107
            have H1 : (some false) = some r := by rw [if_neg (show ¬ (false = true) by decide)] at H; exact H
            clear H
            have H := H1
            clear H1
            obtain rfl := Option.some.inj H
            have hnb143 := NB187_188.out
            have hnc143 := NB188_187.out
            have hnb144 := NB187_192.out
            have hnc144 := NB192_187.out
            have hnb145 := NB187_196.out
            have hnc145 := NB196_187.out
            have hcz146_0 : wc.cell? ⟨gb187, 0, none⟩ = some (.int .i64 a0) := (blk_cell BK187.out 0).trans rfl
            have hcz146_1 : wc.cell? ⟨gb187, 1, none⟩ = some (.int .i64 a1) := (blk_cell BK187.out 1).trans rfl
            have hfz146_0 := blk_frozen BK187.out 0
            have hfz146_1 := blk_frozen BK187.out 1
            go_wp2_with (first | ((with_reducible refine gate_callee (f := 13) rfl ?_); refine goesL_ (some 48) rfl rfl Try.func13 (by kernel_rfl) rfl #[.agg #[.int .i64 a0, .int .i64 a1], .int .i64 a4] rfl (by (try simp only [List.map_toArray, List.map_cons, List.map_nil]); first | done | rfl | (simp only [List.length_drop, List.length_take]; rfl)) ?_; (with_reducible refine (span_Holds.calls a0 a1 a4 false _ A46.out).mono ?_); rintro e w147 ⟨rfl, hb⟩; refine ⟨_, rfl, ?_⟩; have n0_ := Aside0.mk (blk_below (g := gb187) (o := .cells #[.int .i64 a0, .int .i64 a1] 28 (0, 0)) (by (with_reducible repeat (first | refine blk_drewN ?_ _ | refine blk_drew ?_ | refine blk_alloc ?_ _)); exact BK187.out) hb); have n1_ := Aside0.mk (blk_below (g := gb188) (o := .cells #[.int .i64 a2, .int .i64 a3] 28 (0, 0)) (by (with_reducible repeat (first | refine blk_drewN ?_ _ | refine blk_drew ?_ | refine blk_alloc ?_ _)); exact BK188.out) hb); have n2_ := Aside0.mk (blk_below (g := gb192) (o := .cells #[.int .i64 t189, .int .i64 t190] 28 (0, 0)) (by (with_reducible repeat (first | refine blk_drewN ?_ _ | refine blk_drew ?_ | refine blk_alloc ?_ _)); exact BK192.out) hb); have n3_ := Aside0.mk (blk_below (g := gb196) (o := .cells #[.int .i64 t193, .int .i64 t194] 28 (0, 0)) (by (with_reducible repeat (first | refine blk_drewN ?_ _ | refine blk_drew ?_ | refine blk_alloc ?_ _)); exact BK196.out) hb); have n4_ := Aside0.mk (below_step (by repeat (first | (with_reducible first | exact HB.out | apply below_alloc | apply pw_below_drewN | apply below_drew1 | refine below_set ?_ GE187.out | refine below_set ?_ GE188.out | refine below_set ?_ GE192.out | refine below_set ?_ GE196.out) | exact HB.out)) hb); clear BK187; clear BK188; clear BK192; clear BK196; clear HB; have BK187 := n0_; have BK188 := n1_; have BK192 := n2_; have BK196 := n3_; have HB := n4_; clear n0_ n1_ n2_ n3_ n4_; (try clear hb); (try clear hb2); (try clear hk); (try clear hi)))
            go_ret
            exact ⟨by first | rfl | (simp [errW_none, errW_some] <;> rfl) | (simp [*, errW_none, errW_some] <;> rfl), by repeat (first | (with_reducible first | exact HB.out | apply below_alloc | apply pw_below_drewN | apply below_drew1 | refine below_set ?_ GE187.out | refine below_set ?_ GE188.out | refine below_set ?_ GE192.out | refine below_set ?_ GE196.out) | exact HB.out)⟩

/-- THE ONE PURE STATEMENT of heronrylaw12_SpanMeets: yours. -/
def heronrylaw12_SpanMeets.Pure : Prop := ∀ (a0 : Int) (a1 : Int) (a2 : Int) (a3 : Int) (a4 : Int), (Lit.int .i64 a0).wf = true → (Lit.int .i64 a1).wf = true → (Lit.int .i64 a2).wf = true → (Lit.int .i64 a3).wf = true → (Lit.int .i64 a4).wf = true → ∃ k, heronrylaw12_SpanMeets.f k a0 a1 a2 a3 a4 = some true
theorem heronrylaw12_SpanMeets.walk (P : heronrylaw12_SpanMeets.Pure) (a0 : Int) (a1 : Int) (a2 : Int) (a3 : Int) (a4 : Int) (w : World) (w0 : (Lit.int .i64 a0).wf = true) (w1 : (Lit.int .i64 a1).wf = true) (w2 : (Lit.int .i64 a2).wf = true) (w3 : (Lit.int .i64 a3).wf = true) (w4 : (Lit.int .i64 a4).wf = true) :
    Calls Try.prog 6 #[.int .i64 a0, .int .i64 a1, .int .i64 a2, .int .i64 a3, .int .i64 a4] w fun e w' => e = .returned (.bool true) ∧ Below w.heap.size w w' := by
  obtain ⟨k, h⟩ := P a0 a1 a2 a3 a4 w0 w1 w2 w3 w4
  refine (heronrylaw12_SpanMeets.calls k a0 a1 a2 a3 a4 true w h).mono ?_
  rintro e w' ⟨rfl, hd⟩
  exact ⟨rfl, hd⟩

end Go.Proofs.Ythhhfoogfnnooaa.Q
